/- Laws and contracts that the card of this claim stands on, part 4. No condition of ours. -/
import Derived.Test.YtnbjahmpennmkaaGreatDoorPp0
import Derived.Test.YtnbjahmpennmkaaGreatDoorPp1
import Derived.Test.YtnbjahmpennmkaaGreatDoorPp2
set_option maxRecDepth 100000
set_option maxHeartbeats 4000000
namespace Go.Proofs.YtnbjahmpennmkaaGreatDoor
open Go.RowKit
open Go.RowKit Go.Shelf
theorem nSubZ (a:Nat)(hla:(wds a).length≤1000000000)(has:18446744073709551616≤a)(w:World)(h:Hp)(g:G w h) :
    Calls Tryz.prog 101 #[nv a,nv 0] w (Ret w h fun v _=>v=.tuple #[nv a,.bool true]):=by
 have hs:=SS.start g
 have hcl:=cmpN_ge (show 0≤a by omega)
 refine go Tryz.func101 [(0,nv a),(1,nv 0)] rfl ?_
 refine cSL (lA 2 52 (nc a) hs (fun b1 w2 h3 hs=>?_))
 refine lA 3 52 (nc 0) hs (fun b4 w5 h6 hs=>?_)
 refine lA 4 52 ([.int .u64 0,.string ⟨#[]⟩]) hs (fun b7 w8 h9 hs=>?_)
 refine lL hs [.v 5 (.bool false)] (lN (CG.seq (cSL (lL hs [.o 11 (nv a) 2 0 2,.o 12 (nv 0) 1 0 2] (lC 13 hs (nCmp a 0 hla (by simp[wds_zero]) _ _ hs.g) ?_)))))
 rintro _ w10 h11 hs rfl
 have ⟨hb12,phb12⟩:=dF (p:=(cmpN a 0:Int)<(0:Int)) oM
 refine lB 14 hb12 ?_
 refine lN (cIF (CG.skipN (CG.seq (cSL (lL hs [.v 16 (.pointer (some ⟨b1,1,none⟩)),.o 17 (.string (hi a)) 2 1 1] (lV 18 (.bool false) ?_ (hr:=rb kR (strN (hi_ne has)))))))))
 refine lN (cIF (CG.skipN (CG.seq ?_)))
 obtain ⟨K_,hK_⟩:∃ K_,K_=w10.heap.size:=⟨_,rfl⟩
 have hk_b7:b7<K_:=by rw[hK_];exact zblk hs 0
 have hk_b4:b4<K_:=by rw[hK_];exact zblk hs 1
 have hk_b1:b1<K_:=by rw[hK_];exact zblk hs 2
 refine cRa ⟨[],some (K_,[])⟩ 0 mixed ?_
 have hszK:=hs.g.size
 replace hs:=hs.drew
 have hKl:=Nat.le_of_eq hK_
 refine zO 0 25 [(2,0,2)] (nv a) rfl hKl hs (fun p hp=>by obtain rfl:=List.mem_singleton.1 hp;exact hk_b1) ?_
 refine zO 2 27 [(1,0,2)] (nv 0) rfl hKl hs (fun p hp=>by obtain rfl:=List.mem_singleton.1 hp;exact hk_b4) ?_
 refine zCu 1 26 (nWords a oM oM _ _ hs.g) rfl hKl ?_
 rintro _ w13 h14 u15 hKl ⟨bw1,rfl,hlo1,hbc1,hsl1⟩
 obtain ⟨h16,hs,-,-⟩:=hs.take u15 hlo1 hbc1
 replace hs:=hs.to [⟨bw1,50,(wds a).flatMap u64c⟩,⟨b7,52,[.int .u64 0,.string ⟨#[]⟩]⟩,⟨b4,52,nc 0⟩,⟨b1,52,nc a⟩] []
 refine zCu 3 28 (nWords0 _ _ hs.g) rfl hKl ?_
 rintro _ w17 h18 u19 hKl rfl
 replace hs:=hs.step u19
 refine zV 4 6 (.slice (some ⟨bw1,0,none⟩) ((wds a).length) ((wds a).length)) ?_
 refine zV 5 7 (.slice none 0 0) ?_
 refine tNS ?_
 refine lL hs [.v 8 (.int .u64 0)] (lN (CG.seq (cSL (lL hs [.m 29 6,.v 30 (.int .i64 ((wds a).length:Nat)),.v 31 (.int .i64 0)] (lN (CG.block (cTo [(4,.pointer (some ⟨b7,0,none⟩)),(5,.bool false),(6,.slice (some ⟨bw1,0,none⟩) ((wds a).length) ((wds a).length)),(7,.slice none 0 0),(30,.int .i64 ((wds a).length:Nat)),(31,.int .i64 0),(8,.int .u64 0)] ?_)))))))
 refine CG.loop (fun μ_ Γ w_=>∃ (i:Nat) (l:List Nat) (bo:Nat) (h_:Hp),μ_=(wds a).length-i∧Γ=[(4,.pointer (some ⟨b7,0,none⟩)),(5,.bool false),(6,.slice (some ⟨bw1,0,none⟩) ((wds a).length) ((wds a).length)),(7,.slice none 0 0),(30,.int .i64 ((wds a).length:Nat)),(31,.int .i64 (i:Nat)),(8,.int .u64 (bo:Nat))]∧SS w h w_ h_ [⟨bw1,50,(l).flatMap u64c⟩,⟨b7,52,[.int .u64 0,.string ⟨#[]⟩]⟩,⟨b4,52,nc 0⟩,⟨b1,52,nc a⟩] [] []∧(i≤(wds a).length)∧(l.length=(wds a).length)∧(Wd l)∧(bo≤1)∧(bval 18446744073709551616 l+bval 18446744073709551616 (([]:List Nat).take i)=a+18446744073709551616^i*bo)) _ ⟨0,wds a,0,h18,rfl,rfl,hs.to _ _,Nat.zero_le _,rfl,Wd.wds _,oM,(by have hx_:bval 18446744073709551616 (wds a)=a:=wval_wds _;rw[hx_];simp[bval])⟩ ?_
 rintro _ _ w20 ⟨i,l,bo,h21,hm22,rfl,hs,hi,hll,hW,hbo,inv⟩
 have hlk:=hW.get i
 have hyk:=Wd.get (l:=[]) Dg.nil i
 refine cSL ?_
 cases hb23:(decide (((i:Nat):Int)<(((wds a).length:Nat):Int)))
 ·
  have phb23:=oF hb23
  refine lB 32 hb23 ?_
  refine lN (CG.seq (cIF (CG.exit ?_)))
  show CG _ _ _ _ _ _ _ _
  refine cSL ?_
  rw[List.take_nil,show i=l.length by omega] at inv
  have hE:wval l=a:=sub_end (b:=0) hW inv oM hbo
  obtain ⟨h24,hs,sg25,lo26,bc27⟩:=hs.pub 0
  replace hs:=(hs.to [⟨b7,52,[.int .u64 0,.string ⟨#[]⟩]⟩,⟨b4,52,nc 0⟩,⟨b1,52,nc a⟩] []).a_SlO (SlO.of_flat (sz:=1) (f:=u64c) (d:=0) (b:=bw1) (o:=0) (l:=l) (fun _=>rfl) sg25)
  refine lL hs [.m 56 6] (lC 57 hs (nFromE (some ⟨bw1,0,none⟩) ((wds a).length) (l) ((wds a).length) (a) (by first|rfl|assumption|(simp;done)|(simp;omega)|omega) (hW) (hE) sM sM _ _ hs.g (hs.f.1)) ?_)
  rintro _ w29 h30 hs rfl
  refine lP 0 0 (nc a) hs (fun w31 hs=>?_)
  exact lL hs [.v 5 (.bool true)] (lN (CG.ret (hs.ret [(0,0,2)] (.tuple #[nv a,.bool true]) rfl)))
 have phb23:=oT hb23
 refine lB 32 hb23 ?_
 refine lN (CG.seq (cIT (CG.skipN (CG.seq (CG.block (cSL (lL hs [.m 33 31,.m 9 33] (lNS (lL hs [.v 10 (.int .u64 0)] (lN (CG.seq (cSL (lL hs [.m 34 9,.m 35 7,.v 36 (.int .i64 0)] ?_)))))))))))))
 have ⟨hb32,phb32⟩:=dF (p:=((i:Nat):Int)<(0:Int)) oM
 refine lB 37 hb32 ?_
 refine lN (cIF (CG.skipN (CG.listed (lL hs [.m 43 6,.m 44 9,.m 45 6,.m 46 9] (lX 47 (some ⟨bw1,0,none⟩) ((wds a).length) ((wds a).length) 1 (i:Nat) i rfl ?_)))))
 refine lQ 48 0 l u64c 1 0 i (.int .u64 ((l).getD i 0:Nat)) hs oM ?_
 refine lL hs [.m 49 10,.m 50 8] ?_
 obtain ⟨s33,c34,he35,hl36,hm37,hr38⟩:=bSub64 ((l).getD i 0) 0 bo wM wM oM
 refine lV 51 (.tuple #[.int .u64 (s33:Nat),.int .u64 (c34:Nat)]) ?_ (hr:=opExt kR (hr38 _))
 refine lL hs [.m 42 51,.v 52 (.int .u64 (s33:Nat)),.v 53 (.int .u64 (c34:Nat))] (lX 54 (some ⟨bw1,0,none⟩) ((wds a).length) ((wds a).length) 1 (i:Nat) i rfl ?_)
 refine lW 0 l u64c 1 i s33 hs oM (fun w39 hs=>?_)
 have hl40:((l).set i s33).length=(wds a).length:=by rw[List.length_set];exact hll
 replace hs:=hs.to [⟨bw1,50,((l).set i s33).flatMap u64c⟩,⟨b7,52,[.int .u64 0,.string ⟨#[]⟩]⟩,⟨b4,52,nc 0⟩,⟨b1,52,nc a⟩] []
 refine lL hs [.m 8 53] (lN (CG.listed (lIn 55 ((i:Nat)+1) (i+1) ?_)))
 refine lL hs [.m 31 55] (lD ?_)
 intro a_ ka
 have q41:(i+1)≤(wds a).length:=by omega
 have q42:((l).set i s33).length=(wds a).length:=hl40
 have q43:Wd ((l).set i s33):=(hW.set _ oM)
 have q44:c34≤1:=oM
 have q45:bval 18446744073709551616 ((l).set i s33)+bval 18446744073709551616 (([]:List Nat).take (i+1))=a+18446744073709551616^(i+1)*c34:=(sub_step oM inv (by first|omega|(have hy0:=getD_out (l:=([]:List Nat)) (k:=i) (by first|omega|(simp;done));omega)))
 refine ⟨_,_,?_,⟨i+1,(l).set i s33,c34,h21,rfl,rfl,hs.to _ _,q41,q42,q43,q44,q45⟩,ka.to [(4,.pointer (some ⟨b7,0,none⟩)),(5,.bool false),(6,.slice (some ⟨bw1,0,none⟩) ((wds a).length) ((wds a).length)),(7,.slice none 0 0),(30,.int .i64 ((wds a).length:Nat)),(31,.int .i64 ((i+1):Nat)),(8,.int .u64 (c34:Nat))] kR⟩
 omega
theorem nSub (a b:Nat)(hab:b≤a)(hla:(wds a).length≤1000000000)(hlb:(wds b).length≤1000000000)(w:World)(h:Hp)(g:G w h):Calls Tryz.prog 101 #[nv a,nv b] w (Ret w h fun v _=>v=.tuple #[nv (a-b),.bool true]):=by
  rcases Nat.lt_or_ge a 18446744073709551616 with h1|h1
  · exact nSubS a b hla hlb hab h1 w h g
  · rcases Nat.eq_zero_or_pos b with h3|h3
    · subst h3;exact nSubZ a hla h1 w h g
    · exact nSubB a b hla hlb hab h1 h3 w h g
theorem nMulS (a b:Nat)(hla:(wds a).length≤1000000000)(hlb:(wds b).length≤1000000000)(has:a<18446744073709551616)(hbs:b<18446744073709551616)(w:World)(h:Hp)(g:G w h) :
    Calls Tryz.prog 66 #[nv a,nv b] w (Ret w h fun v _=>v=nv (a*b)):=by
 have hs:=SS.start g
 have ham:=Nat.mod_eq_of_lt has
 have hbm:=Nat.mod_eq_of_lt hbs
 refine go Tryz.func66 [(0,nv a),(1,nv b)] rfl ?_
 refine cSL (lA 2 52 (nc a) hs (fun b1 w2 h3 hs=>?_))
 refine lA 3 52 (nc b) hs (fun b4 w5 h6 hs=>?_)
 refine lA 4 52 ([.int .u64 0,.string ⟨#[]⟩]) hs (fun b7 w8 h9 hs=>?_)
 refine lN (CG.seq (cSL (lL hs [.v 7 (.pointer (some ⟨b1,1,none⟩)),.o 8 (.string (hi a)) 2 1 1] (lV 9 (.bool true) ?_ (hr:=rb kR (strE (hi_nil has)))))))
 refine lL hs [.m 10 9,.v 11 (.pointer (some ⟨b4,1,none⟩)),.o 12 (.string (hi b)) 1 1 1] (lV 13 (.bool true) ?_ (hr:=rb kR (strE (hi_nil hbs))))
 refine lL hs [.v 14 (.bool true)] (lN (cIT (cSL (lL hs [.v 16 (.pointer (some ⟨b1,0,none⟩)),.o 17 (.int .u64 (a%18446744073709551616:Nat)) 2 0 1,.v 18 (.pointer (some ⟨b4,0,none⟩)),.o 19 (.int .u64 (b%18446744073709551616:Nat)) 1 0 1] (lC 20 hs (bMul64 (a%18446744073709551616) (b%18446744073709551616) wM wM _ _ hs.g) ?_)))))
 rintro _ w16 h17 hs ⟨s10,c11,rfl,he12,hl13,hm14,hn15⟩
 have hxhe12:=mul64_le (a:=(a%18446744073709551616)) (b:=(b%18446744073709551616)) wM wM
 refine lL hs [.m 15 20,.v 21 (.int .u64 (s10:Nat)),.v 22 (.int .u64 (c11:Nat)),.m 5 21,.m 6 22] (lN (CG.seq (cSL ?_)))
 rw[ham,hbm] at he12
 refine lL hs [.m 23 5] ?_
 cases hb18:(((s10:Nat):Int) == (0:Int))
 ·
  have phb18:=neOfBeq hb18
  refine lB 24 hb18 ?_
  refine lN (cIF (CG.skipN (cSL (lL hs [.m 27 6,.m 28 5] (lR 29 50 2 ([.int .u64 (c11:Nat),.int .u64 (s10:Nat)]) hs (fun b19 w20 h21 hs=>?_))))))
  replace hs:=hs.a_SlO (SlO.of_flat (sz:=1) (f:=u64c) (d:=0) (l:=[c11,s10]) (fun _=>rfl) (hs.f.1))
  refine lC 30 hs (nFromE (some ⟨b19,0,none⟩) 2 ([c11,s10]) 2 ((a*b)) (by first|rfl|assumption|(simp;done)|(simp;omega)|omega) (Dg.cons oM (Dg.one oM)) (by show c11+18446744073709551616*(s10+18446744073709551616*0)=a*b;omega) sM sM _ _ hs.g (hs.f.1)) ?_
  rintro _ w24 h25 hs rfl
  refine lP 0 0 (nc (a*b)) hs (fun w26 hs=>?_)
  exact lN (CG.ret (hs.ret [(0,0,2)] (nv (a*b)) rfl))
 have phb18:=eq_of_beq hb18
 refine lB 24 hb18 ?_
 refine lN (cIT (cSL (lL hs [.m 25 6,.v 26 (.agg #[.int .u64 (c11:Nat),.string ⟨#[]⟩])] (lP 0 0 ([.int .u64 (c11:Nat),.string ⟨#[]⟩]) hs (fun w27 hs=>?_)))))
 exact lN (CG.ret (hs.ret [(0,0,2)] (.agg #[.int .u64 (c11:Nat),.string ⟨#[]⟩]) (by rw[show c11=a*b by omega];exact nv_lit oM)))
theorem nMulL (a b:Nat)(hla:(wds a).length≤1000000000)(hlb:(wds b).length≤1000000000)(has:18446744073709551616≤a)(w:World)(h:Hp)(g:G w h) :
    Calls Tryz.prog 66 #[nv a,nv b] w (Ret w h fun v _=>v=nv (a*b)):=by
 have hs:=SS.start g
 refine go Tryz.func66 [(0,nv a),(1,nv b)] rfl ?_
 refine cSL (lA 2 52 (nc a) hs (fun b1 w2 h3 hs=>?_))
 refine lA 3 52 (nc b) hs (fun b4 w5 h6 hs=>?_)
 refine lA 4 52 ([.int .u64 0,.string ⟨#[]⟩]) hs (fun b7 w8 h9 hs=>?_)
 refine lN (CG.seq (cSL (lL hs [.v 7 (.pointer (some ⟨b1,1,none⟩)),.o 8 (.string (hi a)) 2 1 1] (lV 9 (.bool false) ?_ (hr:=rb kR (strN (hi_ne has)))))))
 refine lL hs [.m 10 9] (lG 11 ?_)
 refine lG 12 ?_
 refine lG 13 ?_
 refine lL hs [.v 14 (.bool false)] (lN (cIF (CG.skipN (CG.seq (cR 6 [] mixed hs al_nil ?_)))))
 refine eO 0 31 [(2,0,2)] (nv a) hs ?_
 refine eO 2 33 [(1,0,2)] (nv b) hs ?_
 refine eC 1 32 hs (fun _ _ hs=>nWordsG a oM _ _ hs.g) ?_
 rintro _ _ _ w10 h11 hs ⟨Aw1,cw1,rfl,hcw1,hw1⟩
 replace hs:=(hs.a_SlO hw1)
 refine eC 3 34 hs (fun _ _ hs=>nWordsG b oM _ _ hs.g) ?_
 rintro _ _ _ w12 h13 hs ⟨Aw2,cw2,rfl,hcw2,hw2⟩
 replace hs:=(hs.a_SlO hw2)
 refine eC 4 35 hs (fun _ _ hs=>nMulW Aw1 cw1 (wds a) Aw2 cw2 (wds b) (Wd.wds a) (Wd.wds b) oM oM _ _ hs.g (hs.f.2.1) (hs.f.1)) ?_
 rintro _ _ _ w14 h15 hs ⟨Am,cm,zm,rfl,hcm,hlm,hWm,hVm,hm⟩
 replace hs:=(hs.a_SlO hm)
 refine eC 5 36 hs (fun _ _ hs=>nFromE Am cm (zm) zm.length ((a*b)) (by first|rfl|assumption|(simp;done)|(simp;omega)|omega) (hWm) (hVm.trans (by rw[wval_wds,wval_wds])) sM sM _ _ hs.g (hs.f.1)) ?_
 rintro _ _ _ w16 h17 hs rfl
 refine eD0 hs (fun w18 h19 hs=>?_)
 refine tP 6 0 0 (nc (a*b)) hs (fun w20 hs=>?_)
 exact tN (CG.ret (hs.ret [(0,0,2)] (nv (a*b)) rfl))
theorem nMulR (a b:Nat)(hla:(wds a).length≤1000000000)(hlb:(wds b).length≤1000000000)(has:a<18446744073709551616)(hbs:18446744073709551616≤b)(w:World)(h:Hp)(g:G w h) :
    Calls Tryz.prog 66 #[nv a,nv b] w (Ret w h fun v _=>v=nv (a*b)):=by
 have hs:=SS.start g
 refine go Tryz.func66 [(0,nv a),(1,nv b)] rfl ?_
 refine cSL (lA 2 52 (nc a) hs (fun b1 w2 h3 hs=>?_))
 refine lA 3 52 (nc b) hs (fun b4 w5 h6 hs=>?_)
 refine lA 4 52 ([.int .u64 0,.string ⟨#[]⟩]) hs (fun b7 w8 h9 hs=>?_)
 refine lN (CG.seq (cSL (lL hs [.v 7 (.pointer (some ⟨b1,1,none⟩)),.o 8 (.string (hi a)) 2 1 1] (lV 9 (.bool true) ?_ (hr:=rb kR (strE (hi_nil has)))))))
 refine lL hs [.m 10 9,.v 11 (.pointer (some ⟨b4,1,none⟩)),.o 12 (.string (hi b)) 1 1 1] (lV 13 (.bool false) ?_ (hr:=rb kR (strN (hi_ne hbs))))
 refine lL hs [.v 14 (.bool false)] (lN (cIF (CG.skipN (CG.seq (cR 6 [] mixed hs al_nil ?_)))))
 refine eO 0 31 [(2,0,2)] (nv a) hs ?_
 refine eO 2 33 [(1,0,2)] (nv b) hs ?_
 refine eC 1 32 hs (fun _ _ hs=>nWordsG a oM _ _ hs.g) ?_
 rintro _ _ _ w10 h11 hs ⟨Aw1,cw1,rfl,hcw1,hw1⟩
 replace hs:=(hs.a_SlO hw1)
 refine eC 3 34 hs (fun _ _ hs=>nWordsG b oM _ _ hs.g) ?_
 rintro _ _ _ w12 h13 hs ⟨Aw2,cw2,rfl,hcw2,hw2⟩
 replace hs:=(hs.a_SlO hw2)
 refine eC 4 35 hs (fun _ _ hs=>nMulW Aw1 cw1 (wds a) Aw2 cw2 (wds b) (Wd.wds a) (Wd.wds b) oM oM _ _ hs.g (hs.f.2.1) (hs.f.1)) ?_
 rintro _ _ _ w14 h15 hs ⟨Am,cm,zm,rfl,hcm,hlm,hWm,hVm,hm⟩
 replace hs:=(hs.a_SlO hm)
 refine eC 5 36 hs (fun _ _ hs=>nFromE Am cm (zm) zm.length ((a*b)) (by first|rfl|assumption|(simp;done)|(simp;omega)|omega) (hWm) (hVm.trans (by rw[wval_wds,wval_wds])) sM sM _ _ hs.g (hs.f.1)) ?_
 rintro _ _ _ w16 h17 hs rfl
 refine eD0 hs (fun w18 h19 hs=>?_)
 refine tP 6 0 0 (nc (a*b)) hs (fun w20 hs=>?_)
 exact tN (CG.ret (hs.ret [(0,0,2)] (nv (a*b)) rfl))
theorem nMul (a b:Nat)(hla:(wds a).length≤1000000000)(hlb:(wds b).length≤1000000000)(w:World)(h:Hp)(g:G w h):Calls Tryz.prog 66 #[nv a,nv b] w (Ret w h fun v _=>v=nv (a*b)):=by
  rcases Nat.lt_or_ge a 18446744073709551616 with h1|h1
  · rcases Nat.lt_or_ge b 18446744073709551616 with h2|h2
    · exact nMulS a b hla hlb h1 h2 w h g
    · exact nMulR a b hla hlb h1 h2 w h g
  · exact nMulL a b hla hlb h1 w h g
theorem nDivS (a b:Nat)(hb:0<b)(hla:(wds a).length≤1000000000)(hlb:(wds b).length≤1000000000)(has:a<18446744073709551616)(hbs:b<18446744073709551616)(w:World)(h:Hp)(g:G w h) :
    Calls Tryz.prog 103 #[nv a,nv b] w (Ret w h fun v _=>v=.tuple #[nv (a/b),nv (a%b),.bool true]):=by
 have hs:=SS.start g
 have hnb0:=(nb_spec hb).2.2
 have hbm0:=Nat.mod_eq_of_lt hbs
 refine go Tryz.func103 [(0,nv a),(1,nv b)] rfl ?_
 refine cSL (lA 2 52 (nc a) hs (fun b1 w2 h3 hs=>?_))
 refine lA 3 52 (nc b) hs (fun b4 w5 h6 hs=>?_)
 refine lA 4 52 ([.int .u64 0,.string ⟨#[]⟩]) hs (fun b7 w8 h9 hs=>?_)
 refine lA 5 52 ([.int .u64 0,.string ⟨#[]⟩]) hs (fun b10 w11 h12 hs=>?_)
 refine lL hs [.v 6 (.bool false)] (lN (CG.seq (cSL (lL hs [.o 11 (nv b) 2 0 2] (lC 12 hs (nBits b hlb _ _ hs.g) ?_)))))
 rintro _ w13 h14 hs rfl
 have hb15:(((nb b:Nat):Int) == (0:Int))=false:=beqF oM
 have phb15:=neOfBeq hb15
 refine lB 13 hb15 ?_
 refine lN (cIF (CG.skipN (CG.seq (cSL (lL hs [.v 16 (.pointer (some ⟨b1,1,none⟩)),.o 17 (.string (hi a)) 3 1 1] (lV 18 (.bool true) ?_ (hr:=rb kR (strE (hi_nil has)))))))))
 refine lL hs [.m 19 18,.v 20 (.pointer (some ⟨b4,1,none⟩)),.o 21 (.string (hi b)) 2 1 1] (lV 22 (.bool true) ?_ (hr:=rb kR (strE (hi_nil hbs))))
 refine lL hs [.v 23 (.bool true)] (lN (cIT (CG.seq ?_)))
 have hsr:=hs
 refine cRz 12 [] [b7,b10] mixed hs al_nil ?_
 refine eV 0 24 (.pointer (some ⟨b1,0,none⟩)) ?_
 refine eO 1 25 [(3,0,1)] (.int .u64 (a%18446744073709551616:Nat)) hs ?_
 refine eV 2 26 (.pointer (some ⟨b4,0,none⟩)) ?_
 refine eO 3 27 [(2,0,1)] (.int .u64 (b%18446744073709551616:Nat)) hs ?_
 refine eV 4 28 (.int .u64 ((a%18446744073709551616)/(b%18446744073709551616):Nat)) ?_ (hv:=fun _=>rint (opQuo (t:=50) (u:=50) (x:=.tmp 25) (y:=.tmp 27) (k:=.u64) (a:=((a%18446744073709551616:Nat):Int)) (b:=((b%18446744073709551616:Nat):Int)) kR kR kR oM _) (quoU64 (a%18446744073709551616) (b%18446744073709551616) oM))
 refine eV 5 29 (.agg #[.int .u64 ((a%18446744073709551616)/(b%18446744073709551616):Nat),.string ⟨#[]⟩]) ?_
 refine eV 6 30 (.pointer (some ⟨b1,0,none⟩)) ?_
 refine eOz 7 31 [(3,0,1)] (.int .u64 (a%18446744073709551616:Nat)) hsr hs ?_ (hM:=fun p hp=>by obtain rfl:=List.mem_singleton.1 hp;exact fun hm=>by rcases List.mem_cons.1 hm with e|hm;exact bx_ne hs.st (i:=3) (j:=1) kR kR kR e;rcases List.mem_cons.1 hm with e|hm;exact bx_ne hs.st (i:=3) (j:=0) kR kR kR e;cases hm)
 refine eV 8 32 (.pointer (some ⟨b4,0,none⟩)) ?_
 refine eOz 9 33 [(2,0,1)] (.int .u64 (b%18446744073709551616:Nat)) hsr hs ?_ (hM:=fun p hp=>by obtain rfl:=List.mem_singleton.1 hp;exact fun hm=>by rcases List.mem_cons.1 hm with e|hm;exact bx_ne hs.st (i:=2) (j:=1) kR kR kR e;rcases List.mem_cons.1 hm with e|hm;exact bx_ne hs.st (i:=2) (j:=0) kR kR kR e;cases hm)
 refine eV 10 34 (.int .u64 ((a%18446744073709551616)%(b%18446744073709551616):Nat)) ?_ (hv:=fun _=>rint (opRem (t:=50) (u:=50) (x:=.tmp 31) (y:=.tmp 33) (k:=.u64) (a:=((a%18446744073709551616:Nat):Int)) (b:=((b%18446744073709551616:Nat):Int)) kR kR kR oM _) (tmodNat (a%18446744073709551616) (b%18446744073709551616)))
 refine eV 11 35 (.agg #[.int .u64 ((a%18446744073709551616)%(b%18446744073709551616):Nat),.string ⟨#[]⟩]) ?_
 refine eD0 hs (fun w16 h17 hs=>?_)
 refine tP 12 1 0 ([.int .u64 ((a%18446744073709551616)/(b%18446744073709551616):Nat),.string ⟨#[]⟩]) hs (fun w18 hs=>?_) (hz:=tlz_mem (List.mem_cons_self))
 refine tP 13 0 0 ([.int .u64 ((a%18446744073709551616)%(b%18446744073709551616):Nat),.string ⟨#[]⟩]) hs (fun w19 hs=>?_) (hz:=tlz_mem (List.mem_cons_of_mem _<|List.mem_cons_self))
 refine tV 14 6 (.bool true) ?_
 exact tN (CG.ret (hs.ret [(1,0,2),(0,0,2)] (.tuple #[.agg #[.int .u64 ((a%18446744073709551616)/(b%18446744073709551616):Nat),.string ⟨#[]⟩],.agg #[.int .u64 ((a%18446744073709551616)%(b%18446744073709551616):Nat),.string ⟨#[]⟩],.bool true]) (by rw[Nat.mod_eq_of_lt has,Nat.mod_eq_of_lt hbs,nv_lit (show a/b<18446744073709551616 by have:=Nat.div_le_self a b;omega),nv_lit (show a%b<18446744073709551616 by have:=Nat.mod_lt a hb;omega)])))
theorem nDivM (a b:Nat)(hb:0<b)(hla:(wds a).length≤1000000000)(hlb:(wds b).length≤1000000000)(has:18446744073709551616≤a)(hbs:b<18446744073709551616)(w:World)(h:Hp)(g:G w h) :
    Calls Tryz.prog 103 #[nv a,nv b] w (Ret w h fun v _=>v=.tuple #[nv (a/b),nv (a%b),.bool true]):=by
 have hs:=SS.start g
 have hnb0:=(nb_spec hb).2.2
 have hbm0:=Nat.mod_eq_of_lt hbs
 have hcl:=cmpN_ge (show b≤a by omega)
 refine go Tryz.func103 [(0,nv a),(1,nv b)] rfl ?_
 refine cSL (lA 2 52 (nc a) hs (fun b1 w2 h3 hs=>?_))
 refine lA 3 52 (nc b) hs (fun b4 w5 h6 hs=>?_)
 refine lA 4 52 ([.int .u64 0,.string ⟨#[]⟩]) hs (fun b7 w8 h9 hs=>?_)
 refine lA 5 52 ([.int .u64 0,.string ⟨#[]⟩]) hs (fun b10 w11 h12 hs=>?_)
 refine lL hs [.v 6 (.bool false)] (lN (CG.seq (cSL (lL hs [.o 11 (nv b) 2 0 2] (lC 12 hs (nBits b hlb _ _ hs.g) ?_)))))
 rintro _ w13 h14 hs rfl
 have hb15:(((nb b:Nat):Int) == (0:Int))=false:=beqF oM
 have phb15:=neOfBeq hb15
 refine lB 13 hb15 ?_
 refine lN (cIF (CG.skipN (CG.seq (cSL (lL hs [.v 16 (.pointer (some ⟨b1,1,none⟩)),.o 17 (.string (hi a)) 3 1 1] (lV 18 (.bool false) ?_ (hr:=rb kR (strN (hi_ne has)))))))))
 refine lL hs [.m 19 18] (lG 20 ?_)
 refine lG 21 ?_
 refine lG 22 ?_
 refine lL hs [.v 23 (.bool false)] (lN (cIF (CG.skipN (CG.seq (cSL (lL hs [.o 36 (nv a) 3 0 2,.o 37 (nv b) 2 0 2] (lC 38 hs (nCmp a b hla hlb _ _ hs.g) ?_)))))))
 rintro _ w16 h17 hs rfl
 have ⟨hb18,phb18⟩:=dF (p:=(cmpN a b:Int)<(0:Int)) oM
 refine lB 39 hb18 ?_
 refine lN (cIF (CG.skipN (CG.seq (cSL (lL hs [.v 42 (.pointer (some ⟨b4,1,none⟩)),.o 43 (.string (hi b)) 2 1 1] (lV 44 (.bool true) ?_ (hr:=rb kR (strE (hi_nil hbs)))))))))
 refine lN (cIT (CG.seq ?_))
 obtain ⟨K_,hK_⟩:∃ K_,K_=w16.heap.size:=⟨_,rfl⟩
 have hk_b10:b10<K_:=by rw[hK_];exact zblk hs 0
 have hk_b7:b7<K_:=by rw[hK_];exact zblk hs 1
 have hk_b4:b4<K_:=by rw[hK_];exact zblk hs 2
 have hk_b1:b1<K_:=by rw[hK_];exact zblk hs 3
 refine cRa ⟨[],some (K_,[])⟩ 0 mixed ?_
 have hszK:=hs.g.size
 replace hs:=hs.drew
 have hKl:=Nat.le_of_eq hK_
 refine zO 0 46 [(3,0,2)] (nv a) rfl hKl hs (fun p hp=>by obtain rfl:=List.mem_singleton.1 hp;exact hk_b1) ?_
 refine zV 2 48 (.pointer (some ⟨b4,0,none⟩)) ?_
 refine zO 3 49 [(2,0,1)] (.int .u64 (b%18446744073709551616:Nat)) rfl hKl hs (fun p hp=>by obtain rfl:=List.mem_singleton.1 hp;exact hk_b4) ?_
 refine zCu 1 47 (nWords a oM oM _ _ hs.g) rfl hKl ?_
 rintro _ w19 h20 u21 hKl ⟨bw1,rfl,hlo1,hbc1,hsl1⟩
 obtain ⟨h22,hs,-,-⟩:=hs.take u21 hlo1 hbc1
 replace hs:=hs.to [⟨bw1,50,(wds a).flatMap u64c⟩,⟨b10,52,[.int .u64 0,.string ⟨#[]⟩]⟩,⟨b7,52,[.int .u64 0,.string ⟨#[]⟩]⟩,⟨b4,52,nc b⟩,⟨b1,52,nc a⟩] []
 refine zCm 4 50 (nDivW bw1 (wds a) (wds a).length (b%18446744073709551616) oM oM (Wd.wds a) hla (Nat.le_refl _) _ _ hs.g (hs.own 0) (hs.jk 0)) rfl hKl oM ?_
 rintro _ w23 h24 u25 hKl ⟨z,r,rfl,hzl,hWz,hVz,hrb,hOz⟩
 replace hs:=(hs.stepM 0 u25 hOz).to [⟨bw1,50,(z).flatMap u64c⟩,⟨b10,52,[.int .u64 0,.string ⟨#[]⟩]⟩,⟨b7,52,[.int .u64 0,.string ⟨#[]⟩]⟩,⟨b4,52,nc b⟩,⟨b1,52,nc a⟩] []
 refine zV 5 45 (.tuple #[.slice (some ⟨bw1,0,none⟩) (tl z z.length) ((wds a).length),.int .u64 (r:Nat)]) ?_
 refine zV 6 51 (.slice (some ⟨bw1,0,none⟩) (tl z z.length) ((wds a).length)) ?_
 refine zV 7 52 (.int .u64 (r:Nat)) ?_
 refine zV 8 7 (.slice (some ⟨bw1,0,none⟩) (tl z z.length) ((wds a).length)) ?_
 refine zV 9 8 (.int .u64 (r:Nat)) ?_
 refine tNS ?_
 have hbm:=Nat.mod_eq_of_lt hbs
 rw[wval_wds,hbm] at hVz
 rw[hbm] at hrb
 obtain ⟨hq1,hq2⟩:=quo_rem hVz hrb
 have htz:=tl_le z z.length
 have hQ:wval (z.take (tl z z.length))=a/b:=by have e:=bval_tl 18446744073709551616 z z.length (Nat.le_refl _);rw[List.take_length] at e;exact e.trans hq1
 obtain ⟨h26,hs,sg27,lo28,bc29⟩:=hs.pub 0
 replace hs:=(hs.to [⟨b10,52,[.int .u64 0,.string ⟨#[]⟩]⟩,⟨b7,52,[.int .u64 0,.string ⟨#[]⟩]⟩,⟨b4,52,nc b⟩,⟨b1,52,nc a⟩] []).a_SlO (SlO.of_flat (sz:=1) (f:=u64c) (d:=0) (b:=bw1) (o:=0) (l:=z) (fun _=>rfl) sg27)
 refine lL hs [.m 53 7] (lC 54 hs (nFromE (some ⟨bw1,0,none⟩) ((wds a).length) (z.take (tl z z.length)) (tl z z.length) ((a/b)) (by first|rfl|assumption|(simp;done)|(simp;omega)|omega) (Dg.take hWz _) (hQ) sM sM _ _ hs.g ((hs.f.1).take _)) ?_)
 rintro _ w31 h32 hs rfl
 refine lL hs [.m 55 8,.v 56 (.agg #[.int .u64 (r:Nat),.string ⟨#[]⟩])] (lP 1 0 (nc (a/b)) hs (fun w33 hs=>?_))
 refine lP 0 0 ([.int .u64 (r:Nat),.string ⟨#[]⟩]) hs (fun w34 hs=>?_)
 exact lL hs [.v 6 (.bool true)] (lN (CG.ret (hs.ret [(1,0,2),(0,0,2)] (.tuple #[nv (a/b),.agg #[.int .u64 (r:Nat),.string ⟨#[]⟩],.bool true]) (by rw[hq2,nv_lit (by have:=Nat.mod_lt a hb;omega)]))))
theorem nDivL (a b:Nat)(hb:0<b)(hla:(wds a).length≤1000000000)(hlb:(wds b).length≤1000000000)(hab:b≤a)(has:18446744073709551616≤a)(hbs:18446744073709551616≤b)(w:World)(h:Hp)(g:G w h) :
    Calls Tryz.prog 103 #[nv a,nv b] w (Ret w h fun v _=>v=.tuple #[nv (a/b),nv (a%b),.bool true]):=by
 have hs:=SS.start g
 have hnb0:=(nb_spec hb).2.2
 have hcl:=cmpN_ge hab
 have hlm:=wds_len_mono hab
 have hl2:=wds_len_big hbs
 refine go Tryz.func103 [(0,nv a),(1,nv b)] rfl ?_
 refine cSL (lA 2 52 (nc a) hs (fun b1 w2 h3 hs=>?_))
 refine lA 3 52 (nc b) hs (fun b4 w5 h6 hs=>?_)
 refine lA 4 52 ([.int .u64 0,.string ⟨#[]⟩]) hs (fun b7 w8 h9 hs=>?_)
 refine lA 5 52 ([.int .u64 0,.string ⟨#[]⟩]) hs (fun b10 w11 h12 hs=>?_)
 refine lL hs [.v 6 (.bool false)] (lN (CG.seq (cSL (lL hs [.o 11 (nv b) 2 0 2] (lC 12 hs (nBits b hlb _ _ hs.g) ?_)))))
 rintro _ w13 h14 hs rfl
 have hb15:(((nb b:Nat):Int) == (0:Int))=false:=beqF oM
 have phb15:=neOfBeq hb15
 refine lB 13 hb15 ?_
 refine lN (cIF (CG.skipN (CG.seq (cSL (lL hs [.v 16 (.pointer (some ⟨b1,1,none⟩)),.o 17 (.string (hi a)) 3 1 1] (lV 18 (.bool false) ?_ (hr:=rb kR (strN (hi_ne has)))))))))
 refine lL hs [.m 19 18] (lG 20 ?_)
 refine lG 21 ?_
 refine lG 22 ?_
 refine lL hs [.v 23 (.bool false)] (lN (cIF (CG.skipN (CG.seq (cSL (lL hs [.o 36 (nv a) 3 0 2,.o 37 (nv b) 2 0 2] (lC 38 hs (nCmp a b hla hlb _ _ hs.g) ?_)))))))
 rintro _ w16 h17 hs rfl
 have ⟨hb18,phb18⟩:=dF (p:=(cmpN a b:Int)<(0:Int)) oM
 refine lB 39 hb18 ?_
 refine lN (cIF (CG.skipN (CG.seq (cSL (lL hs [.v 42 (.pointer (some ⟨b4,1,none⟩)),.o 43 (.string (hi b)) 2 1 1] (lV 44 (.bool false) ?_ (hr:=rb kR (strN (hi_ne hbs)))))))))
 refine lN (cIF (CG.skipN (CG.seq (cR 8 [] mixed hs al_nil ?_))))
 refine eO 0 58 [(3,0,2)] (nv a) hs ?_
 refine eO 2 60 [(2,0,2)] (nv b) hs ?_
 refine eC 1 59 hs (fun _ _ hs=>nWordsG a oM _ _ hs.g) ?_
 rintro _ _ _ w19 h20 hs ⟨Aw1,cw1,rfl,hcw1,hw1⟩
 replace hs:=(hs.a_SlO hw1)
 refine eC 3 61 hs (fun _ _ hs=>nWordsG b oM _ _ hs.g) ?_
 rintro _ _ _ w21 h22 hs ⟨Aw2,cw2,rfl,hcw2,hw2⟩
 replace hs:=(hs.a_SlO hw2)
 refine eC 4 62 hs (fun _ _ hs=>nDivWs Aw1 cw1 (wds a) Aw2 cw2 (wds b) (Wd.wds a) (Wd.wds b) hla oM oM (wds_last hb) _ _ hs.g (hs.f.2.1) (hs.f.1)) ?_
 rintro _ _ _ w23 h24 hs ⟨Aq,cq,q,Ar,cr,r,rfl,hcq,hcr,hWq,hWr,hVq,hVr,hlq,hlr,hFq,hFr⟩
 replace hs:=((hs.a_SlO hFq).a_SlO hFr)
 refine eV 5 57 (.tuple #[.slice Aq q.length cq,.slice Ar r.length cr]) ?_
 refine eV 6 63 (.slice Aq q.length cq) ?_
 refine eV 7 64 (.slice Ar r.length cr) ?_
 refine eD0 hs (fun w25 h26 hs=>?_)
 refine tV 8 9 (.slice Aq q.length cq) ?_
 refine tV 9 10 (.slice Ar r.length cr) ?_
 refine tNS ?_
 refine lL hs [.m 65 9] (lC 66 hs (nFromE Aq cq (q) q.length ((a/b)) (by first|rfl|assumption|(simp;done)|(simp;omega)|omega) (hWq) (hVq.trans (by rw[wval_wds,wval_wds])) sM sM _ _ hs.g (hs.f.2.1)) ?_)
 rintro _ w27 h28 hs rfl
 refine lL hs [.m 67 10] (lC 68 hs (nFromE Ar cr (r) r.length ((a%b)) (by first|rfl|assumption|(simp;done)|(simp;omega)|omega) (hWr) (hVr.trans (by rw[wval_wds,wval_wds])) sM sM _ _ hs.g (hs.f.1)) ?_)
 rintro _ w29 h30 hs rfl
 refine lP 1 0 (nc (a/b)) hs (fun w31 hs=>?_)
 refine lP 0 0 (nc (a%b)) hs (fun w32 hs=>?_)
 exact lL hs [.v 6 (.bool true)] (lN (CG.ret (hs.ret [(1,0,2),(0,0,2)] (.tuple #[nv (a/b),nv (a%b),.bool true]) rfl)))
theorem nDivN (a b:Nat)(hb:0<b)(hla:(wds a).length≤1000000000)(hlb:(wds b).length≤1000000000)(hab:a<b)(has:a<18446744073709551616)(hbs:18446744073709551616≤b)(w:World)(h:Hp)(g:G w h) :
    Calls Tryz.prog 103 #[nv a,nv b] w (Ret w h fun v _=>v=.tuple #[nv (a/b),nv (a%b),.bool true]):=by
 have hs:=SS.start g
 have hnb0:=(nb_spec hb).2.2
 have hcl:=cmpN_lt hab
 refine go Tryz.func103 [(0,nv a),(1,nv b)] rfl ?_
 refine cSL (lA 2 52 (nc a) hs (fun b1 w2 h3 hs=>?_))
 refine lA 3 52 (nc b) hs (fun b4 w5 h6 hs=>?_)
 refine lA 4 52 ([.int .u64 0,.string ⟨#[]⟩]) hs (fun b7 w8 h9 hs=>?_)
 refine lA 5 52 ([.int .u64 0,.string ⟨#[]⟩]) hs (fun b10 w11 h12 hs=>?_)
 refine lL hs [.v 6 (.bool false)] (lN (CG.seq (cSL (lL hs [.o 11 (nv b) 2 0 2] (lC 12 hs (nBits b hlb _ _ hs.g) ?_)))))
 rintro _ w13 h14 hs rfl
 have hb15:(((nb b:Nat):Int) == (0:Int))=false:=beqF oM
 have phb15:=neOfBeq hb15
 refine lB 13 hb15 ?_
 refine lN (cIF (CG.skipN (CG.seq (cSL (lL hs [.v 16 (.pointer (some ⟨b1,1,none⟩)),.o 17 (.string (hi a)) 3 1 1] (lV 18 (.bool true) ?_ (hr:=rb kR (strE (hi_nil has)))))))))
 refine lL hs [.m 19 18,.v 20 (.pointer (some ⟨b4,1,none⟩)),.o 21 (.string (hi b)) 2 1 1] (lV 22 (.bool false) ?_ (hr:=rb kR (strN (hi_ne hbs))))
 refine lL hs [.v 23 (.bool false)] (lN (cIF (CG.skipN (CG.seq (cSL (lL hs [.o 36 (nv a) 3 0 2,.o 37 (nv b) 2 0 2] (lC 38 hs (nCmp a b hla hlb _ _ hs.g) ?_)))))))
 rintro _ w16 h17 hs rfl
 have ⟨hb18,phb18⟩:=dT (p:=(cmpN a b:Int)<(0:Int)) oM
 refine lB 39 hb18 ?_
 refine lN (cIT (CG.seq ?_))
 have hsr:=hs
 refine cRz 2 [] [b7,b10] mixed hs al_nil ?_
 refine eV 0 40 (.agg #[.int .u64 0,.string ⟨#[]⟩]) ?_
 refine eOz 1 41 [(3,0,2)] (nv a) hsr hs ?_ (hM:=fun p hp=>by obtain rfl:=List.mem_singleton.1 hp;exact fun hm=>by rcases List.mem_cons.1 hm with e|hm;exact bx_ne hs.st (i:=3) (j:=1) kR kR kR e;rcases List.mem_cons.1 hm with e|hm;exact bx_ne hs.st (i:=3) (j:=0) kR kR kR e;cases hm)
 refine eD0 hs (fun w19 h20 hs=>?_)
 refine tP 2 1 0 ([.int .u64 0,.string ⟨#[]⟩]) hs (fun w21 hs=>?_) (hz:=tlz_mem (List.mem_cons_self))
 refine tP 3 0 0 (nc a) hs (fun w22 hs=>?_) (hz:=tlz_mem (List.mem_cons_of_mem _<|List.mem_cons_self))
 refine tV 4 6 (.bool true) ?_
 exact tN (CG.ret (hs.ret [(1,0,2),(0,0,2)] (.tuple #[.agg #[.int .u64 0,.string ⟨#[]⟩],nv a,.bool true]) (by have hab:a<b:=(by rcases Nat.lt_or_ge a b with h_|h_;exact h_;rcases cmpN_ge h_ with e|e<;>omega);rw[Nat.div_eq_of_lt hab,Nat.mod_eq_of_lt hab];rfl)))
theorem nDivO (a b:Nat)(hb:0<b)(hla:(wds a).length≤1000000000)(hlb:(wds b).length≤1000000000)(hab:a<b)(has:18446744073709551616≤a)(w:World)(h:Hp)(g:G w h) :
    Calls Tryz.prog 103 #[nv a,nv b] w (Ret w h fun v _=>v=.tuple #[nv (a/b),nv (a%b),.bool true]):=by
 have hs:=SS.start g
 have hnb0:=(nb_spec hb).2.2
 have hcl:=cmpN_lt hab
 refine go Tryz.func103 [(0,nv a),(1,nv b)] rfl ?_
 refine cSL (lA 2 52 (nc a) hs (fun b1 w2 h3 hs=>?_))
 refine lA 3 52 (nc b) hs (fun b4 w5 h6 hs=>?_)
 refine lA 4 52 ([.int .u64 0,.string ⟨#[]⟩]) hs (fun b7 w8 h9 hs=>?_)
 refine lA 5 52 ([.int .u64 0,.string ⟨#[]⟩]) hs (fun b10 w11 h12 hs=>?_)
 refine lL hs [.v 6 (.bool false)] (lN (CG.seq (cSL (lL hs [.o 11 (nv b) 2 0 2] (lC 12 hs (nBits b hlb _ _ hs.g) ?_)))))
 rintro _ w13 h14 hs rfl
 have hb15:(((nb b:Nat):Int) == (0:Int))=false:=beqF oM
 have phb15:=neOfBeq hb15
 refine lB 13 hb15 ?_
 refine lN (cIF (CG.skipN (CG.seq (cSL (lL hs [.v 16 (.pointer (some ⟨b1,1,none⟩)),.o 17 (.string (hi a)) 3 1 1] (lV 18 (.bool false) ?_ (hr:=rb kR (strN (hi_ne has)))))))))
 refine lL hs [.m 19 18] (lG 20 ?_)
 refine lG 21 ?_
 refine lG 22 ?_
 refine lL hs [.v 23 (.bool false)] (lN (cIF (CG.skipN (CG.seq (cSL (lL hs [.o 36 (nv a) 3 0 2,.o 37 (nv b) 2 0 2] (lC 38 hs (nCmp a b hla hlb _ _ hs.g) ?_)))))))
 rintro _ w16 h17 hs rfl
 have ⟨hb18,phb18⟩:=dT (p:=(cmpN a b:Int)<(0:Int)) oM
 refine lB 39 hb18 ?_
 refine lN (cIT (CG.seq ?_))
 have hsr:=hs
 refine cRz 2 [] [b7,b10] mixed hs al_nil ?_
 refine eV 0 40 (.agg #[.int .u64 0,.string ⟨#[]⟩]) ?_
 refine eOz 1 41 [(3,0,2)] (nv a) hsr hs ?_ (hM:=fun p hp=>by obtain rfl:=List.mem_singleton.1 hp;exact fun hm=>by rcases List.mem_cons.1 hm with e|hm;exact bx_ne hs.st (i:=3) (j:=1) kR kR kR e;rcases List.mem_cons.1 hm with e|hm;exact bx_ne hs.st (i:=3) (j:=0) kR kR kR e;cases hm)
 refine eD0 hs (fun w19 h20 hs=>?_)
 refine tP 2 1 0 ([.int .u64 0,.string ⟨#[]⟩]) hs (fun w21 hs=>?_) (hz:=tlz_mem (List.mem_cons_self))
 refine tP 3 0 0 (nc a) hs (fun w22 hs=>?_) (hz:=tlz_mem (List.mem_cons_of_mem _<|List.mem_cons_self))
 refine tV 4 6 (.bool true) ?_
 exact tN (CG.ret (hs.ret [(1,0,2),(0,0,2)] (.tuple #[.agg #[.int .u64 0,.string ⟨#[]⟩],nv a,.bool true]) (by have hab:a<b:=(by rcases Nat.lt_or_ge a b with h_|h_;exact h_;rcases cmpN_ge h_ with e|e<;>omega);rw[Nat.div_eq_of_lt hab,Nat.mod_eq_of_lt hab];rfl)))
theorem nDiv (a b:Nat)(hb:0<b)(hla:(wds a).length≤1000000000)(hlb:(wds b).length≤1000000000)(w:World)(h:Hp)(g:G w h):Calls Tryz.prog 103 #[nv a,nv b] w (Ret w h fun v _=>v=.tuple #[nv (a/b),nv (a%b),.bool true]):=by
  rcases Nat.lt_or_ge a b with hab|hab
  · rcases Nat.lt_or_ge a 18446744073709551616 with h1|h1
    · rcases Nat.lt_or_ge b 18446744073709551616 with h2|h2
      · exact nDivS a b hb hla hlb h1 h2 w h g
      · exact nDivN a b hb hla hlb hab h1 h2 w h g
    · exact nDivO a b hb hla hlb hab h1 w h g
  · rcases Nat.lt_or_ge b 18446744073709551616 with h2|h2
    · rcases Nat.lt_or_ge a 18446744073709551616 with h1|h1
      · exact nDivS a b hb hla hlb h1 h2 w h g
      · exact nDivM a b hb hla hlb h1 h2 w h g
    · exact nDivL a b hb hla hlb hab oM h2 w h g
theorem iv_lit {z:Int}{b:Bool}{n:Nat}(hb:ineg z=b)(hn:iabs z=n):Value.agg #[.bool b,.int .u64 (lo n),.string (hi n)]=iv z:=by subst hb hn;rfl
theorem iv_sg {z:Int}{b:Bool}(hb:ineg z=b):iv z=Value.agg #[.bool b,.int .u64 (lo (iabs z)),.string (hi (iabs z))]:=(iv_lit hb rfl).symm
theorem mul_sg (x y:Int):sgn (ineg x != ineg y) (iabs x*iabs y)=x*y:=by
  rcases hx:ineg x with _|_<;>rcases hy:ineg y with _|_
  · have h1:=ineg_false hx
    have h2:=ineg_false hy
    obtain ⟨a,rfl⟩:=Int.eq_ofNat_of_zero_le h1
    obtain ⟨b,rfl⟩:=Int.eq_ofNat_of_zero_le h2
    simp[sgn,iabs,Int.mul_neg,Int.neg_mul,Int.neg_neg]
  · have h1:=ineg_false hx
    have h2:=ineg_true hy
    obtain ⟨a,rfl⟩:=Int.eq_ofNat_of_zero_le h1
    obtain ⟨b,hb⟩:=Int.eq_ofNat_of_zero_le (a:=-y) oM
    obtain rfl:y = -b:=by omega
    simp[sgn,iabs,Int.mul_neg,Int.neg_mul,Int.neg_neg]
  · have h1:=ineg_true hx
    have h2:=ineg_false hy
    obtain ⟨b,rfl⟩:=Int.eq_ofNat_of_zero_le h2
    obtain ⟨a,ha⟩:=Int.eq_ofNat_of_zero_le (a:=-x) oM
    obtain rfl:x = -a:=by omega
    simp[sgn,iabs,Int.mul_neg,Int.neg_mul,Int.neg_neg]
  · have h1:=ineg_true hx
    have h2:=ineg_true hy
    obtain ⟨a,ha⟩:=Int.eq_ofNat_of_zero_le (a:=-x) oM
    obtain ⟨b,hb⟩:=Int.eq_ofNat_of_zero_le (a:=-y) oM
    obtain rfl:x = -a:=by omega
    obtain rfl:y = -b:=by omega
    simp[sgn,iabs,Int.mul_neg,Int.neg_mul,Int.neg_neg]
theorem wds_len_add {a b:Nat}:(wds (a+b)).length≤(wds a).length+(wds b).length+1:=by
  refine dig_len_le kD ?_
  have h1:=wds_lt_pow a
  have h2:=wds_lt_pow b
  have h3:18446744073709551616^(wds a).length≤18446744073709551616^((wds a).length+(wds b).length):=Nat.pow_le_pow_right kD oM
  have h4:18446744073709551616^(wds b).length≤18446744073709551616^((wds a).length+(wds b).length):=Nat.pow_le_pow_right kD oM
  rw[Nat.pow_succ]
  omega
theorem wds_len_max {a b k:Nat}(ha:(wds a).length≤k)(hb:(wds b).length≤k):(wds (a+b)).length≤k+1:=by
  refine dig_len_le kD ?_
  have h1:=wds_lt_pow a
  have h2:=wds_lt_pow b
  have h3:18446744073709551616^(wds a).length≤18446744073709551616^k:=Nat.pow_le_pow_right kD ha
  have h4:18446744073709551616^(wds b).length≤18446744073709551616^k:=Nat.pow_le_pow_right kD hb
  rw[Nat.pow_succ]
  omega
theorem wds_len_mul {a b:Nat}:(wds (a*b)).length≤(wds a).length+(wds b).length:=by
  refine dig_len_le kD ?_
  rw[Nat.pow_add]
  have h1:=wds_lt_pow a
  have h2:=wds_lt_pow b
  exact Nat.lt_of_lt_of_le (Nat.mul_lt_mul'' h1 h2) (Nat.le_refl _)
theorem wds_len_le {a b k:Nat}(h:a≤b)(hb:(wds b).length≤k):(wds a).length≤k:=Nat.le_trans (wds_len_mono h) hb
theorem wFromF (a:Nat)(w:World)(h:Hp)(g:G w h) :
    Calls Tryz.prog 60 #[.bool false,nv a] w (Ret w h fun v _=>v=iv (sgn false a)):=by
 have hs:=SS.start g
 refine go Tryz.func60 [(0,.bool false),(1,nv a)] rfl ?_
 refine cSL (lA 3 52 (nc a) hs (fun b1 w2 h3 hs=>?_))
 refine lA 4 54 ([.bool false,.int .u64 0,.string ⟨#[]⟩]) hs (fun b4 w5 h6 hs=>?_)
 refine lN (CG.seq (cR 8 [] mixed hs al_nil ?_))
 refine eV 0 5 (.bool false) ?_
 refine eV 1 6 (.bool false) ?_
 refine eG 2 7 ?_
 refine eG 3 8 ?_
 refine eG 4 9 ?_
 refine eV 5 10 (.bool false) ?_
 refine eO 6 11 [(1,0,2)] (nv a) hs ?_
 refine eV 7 12 (.agg #[.bool false,.int .u64 (lo a),.string (hi a)]) ?_
 refine eD0 hs (fun w7 h8 hs=>?_)
 refine tP 8 0 0 ([.bool false,.int .u64 (lo a),.string (hi a)]) hs (fun w9 hs=>?_)
 exact tN (CG.ret (hs.ret [(0,0,3)] (.agg #[.bool false,.int .u64 (lo a),.string (hi a)]) (iv_lit (by rw[ineg_sgn];rfl) (iabs_sgn _ _))))
theorem wFromZ (hl:(wds 0).length≤1000000000)(w:World)(h:Hp)(g:G w h) :
    Calls Tryz.prog 60 #[.bool true,nv 0] w (Ret w h fun v _=>v=iv (sgn true 0)):=by
 have hs:=SS.start g
 have hn0:nb 0=0:=rfl
 refine go Tryz.func60 [(0,.bool true),(1,nv 0)] rfl ?_
 refine cSL (lA 3 52 (nc 0) hs (fun b1 w2 h3 hs=>?_))
 refine lA 4 54 ([.bool false,.int .u64 0,.string ⟨#[]⟩]) hs (fun b4 w5 h6 hs=>?_)
 refine lN (CG.seq (cR 8 [] mixed hs al_nil ?_))
 refine eV 0 5 (.bool true) ?_
 refine eV 1 6 (.bool true) ?_
 refine eO 2 7 [(1,0,2)] (nv 0) hs ?_
 refine eO 6 11 [(1,0,2)] (nv 0) hs ?_
 refine eC 3 8 hs (fun _ _ hs=>nBits 0 aM _ _ hs.g) ?_
 rintro _ _ _ w7 h8 hs rfl
 refine eV 4 9 (.bool false) ?_ (hv:=fun _=>rb (e:=decide ((0:Int)<((nb 0:Nat):Int))) kR (decide_eq_false oM))
 refine eV 5 10 (.bool false) ?_
 refine eV 7 12 (.agg #[.bool false,.int .u64 (lo 0),.string (hi 0)]) ?_
 refine eD0 hs (fun w9 h10 hs=>?_)
 refine tP 8 0 0 ([.bool false,.int .u64 (lo 0),.string (hi 0)]) hs (fun w11 hs=>?_)
 exact tN (CG.ret (hs.ret [(0,0,3)] (.agg #[.bool false,.int .u64 (lo 0),.string (hi 0)]) (iv_lit (by rw[ineg_sgn];rfl) (iabs_sgn _ _))))
theorem wFromT (a:Nat)(ha:0<a)(hl:(wds a).length≤1000000000)(w:World)(h:Hp)(g:G w h) :
    Calls Tryz.prog 60 #[.bool true,nv a] w (Ret w h fun v _=>v=iv (sgn true a)):=by
 have hs:=SS.start g
 have hn0:=(nb_spec ha).2.2
 refine go Tryz.func60 [(0,.bool true),(1,nv a)] rfl ?_
 refine cSL (lA 3 52 (nc a) hs (fun b1 w2 h3 hs=>?_))
 refine lA 4 54 ([.bool false,.int .u64 0,.string ⟨#[]⟩]) hs (fun b4 w5 h6 hs=>?_)
 refine lN (CG.seq (cR 8 [] mixed hs al_nil ?_))
 refine eV 0 5 (.bool true) ?_
 refine eV 1 6 (.bool true) ?_
 refine eO 2 7 [(1,0,2)] (nv a) hs ?_
 refine eO 6 11 [(1,0,2)] (nv a) hs ?_
 refine eC 3 8 hs (fun _ _ hs=>nBits a aM _ _ hs.g) ?_
 rintro _ _ _ w7 h8 hs rfl
 refine eV 4 9 (.bool true) ?_ (hv:=fun _=>rb (e:=decide ((0:Int)<((nb a:Nat):Int))) kR (decide_eq_true oM))
 refine eV 5 10 (.bool true) ?_
 refine eV 7 12 (.agg #[.bool true,.int .u64 (lo a),.string (hi a)]) ?_
 refine eD0 hs (fun w9 h10 hs=>?_)
 refine tP 8 0 0 ([.bool true,.int .u64 (lo a),.string (hi a)]) hs (fun w11 hs=>?_)
 exact tN (CG.ret (hs.ret [(0,0,3)] (.agg #[.bool true,.int .u64 (lo a),.string (hi a)]) (iv_lit (by rw[ineg_sgn];simpa using ha) (iabs_sgn _ _))))
theorem wFrom (b:Bool)(a:Nat)(hl:(wds a).length≤1000000000)(w:World)(h:Hp)(g:G w h):Calls Tryz.prog 60 #[.bool b,nv a] w (Ret w h fun v _=>v=iv (sgn b a)):=by
  cases b
  · exact wFromF a w h g
  · rcases Nat.eq_zero_or_pos a with h0|h0
    · subst h0;exact wFromZ hl w h g
    · exact wFromT a h0 hl w h g
theorem wOfN (z:Int)(h0 : -9223372036854775808≤z)(hz:z<0)(w:World)(h:Hp)(g:G w h) :
    Calls Tryz.prog 77 #[.int .i64 z] w (Ret w h fun v _=>v=iv z):=by
 have hs:=SS.start g
 have hia:iabs z≤9223372036854775808:=by unfold iabs;omega
 refine go Tryz.func77 [(0,.int .i64 z)] rfl ?_
 refine cSL (lA 2 54 ([.bool false,.int .u64 0,.string ⟨#[]⟩]) hs (fun b1 w2 h3 hs=>?_))
 refine lN (CG.seq (cSL (lL hs [.m 3 0] ?_)))
 have ⟨hb4,phb4⟩:=dT (p:=(z:Int)<(0:Int)) oM
 refine lB 4 hb4 ?_
 refine lN (cIT (cSL (lL hs [.m 5 0] (lV 6 (.int .u64 (18446744073709551616-iabs z:Nat)) ?_ (hr:=rint (n:=IntKind.wrap .u64 z) kR (by rw[IntKind.wrap_u64];unfold iabs;omega))))))
 refine lV 7 (.int .u64 (iabs z:Nat)) ?_ (hr:=rint (n:=IntKind.wrap .u64 (0-((18446744073709551616-iabs z:Nat):Int))) kR (by rw[IntKind.wrap_u64];omega))
 refine lC 8 hs (nOf (iabs z) oM _ _ hs.g) ?_
 rintro _ w5 h6 hs rfl
 refine lL hs [.v 9 (.agg #[.bool true,.int .u64 (lo (iabs z)),.string (hi (iabs z))])] (lP 0 0 ([.bool true,.int .u64 (lo (iabs z)),.string (hi (iabs z))]) hs (fun w7 hs=>?_))
 exact lN (CG.ret (hs.ret [(0,0,3)] (.agg #[.bool true,.int .u64 (lo (iabs z)),.string (hi (iabs z))]) (iv_lit (by simp[ineg,hz]) rfl)))
theorem wOfP (n:Nat)(h1:n<9223372036854775808)(w:World)(h:Hp)(g:G w h) :
    Calls Tryz.prog 77 #[.int .i64 (n:Nat)] w (Ret w h fun v _=>v=iv (n:Int)):=by
 have hs:=SS.start g
 refine go Tryz.func77 [(0,.int .i64 (n:Nat))] rfl ?_
 refine cSL (lA 2 54 ([.bool false,.int .u64 0,.string ⟨#[]⟩]) hs (fun b1 w2 h3 hs=>?_))
 refine lN (CG.seq (cSL (lL hs [.m 3 0] ?_)))
 have ⟨hb4,phb4⟩:=dF (p:=((n:Nat):Int)<(0:Int)) oM
 refine lB 4 hb4 ?_
 refine lN (cIF (CG.skipN (cSL (lL hs [.m 10 0] (lV 11 (.int .u64 (n:Nat)) ?_ (hr:=rint (n:=IntKind.wrap .u64 ((n:Nat):Int)) kR (fitU64 oM oM)))))))
 refine lC 12 hs (nOf n oM _ _ hs.g) ?_
 rintro _ w5 h6 hs rfl
 refine lL hs [.v 13 (.agg #[.bool false,.int .u64 (lo n),.string (hi n)])] (lP 0 0 ([.bool false,.int .u64 (lo n),.string (hi n)]) hs (fun w7 hs=>?_))
 exact lN (CG.ret (hs.ret [(0,0,3)] (.agg #[.bool false,.int .u64 (lo n),.string (hi n)]) (iv_lit (by simp[ineg]) (by simp[iabs]))))
theorem wOf (z:Int)(h0 : -9223372036854775808≤z)(h1:z≤9223372036854775807)(w:World)(h:Hp)(g:G w h):Calls Tryz.prog 77 #[.int .i64 z] w (Ret w h fun v _=>v=iv z):=by
  rcases Int.lt_or_le z 0 with hz|hz
  · exact wOfN z h0 hz w h g
  · obtain ⟨n,rfl⟩:=Int.eq_ofNat_of_zero_le hz
    exact wOfP n oM w h g
def cmpI(x y:Int):Int:=if x<y then -1 else if y<x then 1 else 0
theorem cmpI_lt {x y:Int}(h:x<y):cmpI x y = -1:=by simp[cmpI,h]
theorem cmpI_gt {x y:Int}(h:y<x):cmpI x y=1:=by unfold cmpI;rw[if_neg oM,if_pos h]
theorem cmpI_pp {x y:Int}(hx:0≤x)(hy:0≤y):cmpI x y=cmpN (iabs x) (iabs y):=by
  unfold cmpI cmpN iabs
  have e1:(x<y)=(x.natAbs<y.natAbs):=by apply propext;omega
  have e2:(y<x)=(y.natAbs<x.natAbs):=by apply propext;omega
  simp only[e1,e2]
theorem cmpI_nn {x y:Int}(hx:x<0)(hy:y<0):cmpI x y=cmpN (iabs y) (iabs x):=by
  unfold cmpI cmpN iabs
  have e1:(x<y)=(y.natAbs<x.natAbs):=by apply propext;omega
  have e2:(y<x)=(x.natAbs<y.natAbs):=by apply propext;omega
  simp only[e1,e2]
theorem wAbs (z:Int)(w:World)(h:Hp)(g:G w h) :
    Calls Tryz.prog 78 #[iv z] w (Ret w h fun v _=>v=nv (iabs z)):=by
 have hs:=SS.start g
 refine go Tryz.func78 [(0,iv z)] rfl ?_
 refine cSL (lA 1 54 (ic z) hs (fun b1 w2 h3 hs=>?_))
 refine lA 2 52 ([.int .u64 0,.string ⟨#[]⟩]) hs (fun b4 w5 h6 hs=>?_)
 refine lNS (lL hs [.v 3 (.pointer (some ⟨b1,1,none⟩)),.o 4 (nv (iabs z)) 1 1 2] (lP 0 0 (nc (iabs z)) hs (fun w7 hs=>?_)))
 exact lN (CG.ret (hs.ret [(0,0,2)] (nv (iabs z)) rfl))
theorem wSignN (z:Int)(hz:ineg z=true)(w:World)(h:Hp)(g:G w h) :
    Calls Tryz.prog 68 #[.agg #[.bool true,.int .u64 (lo (iabs z)),.string (hi (iabs z))]] w (Ret w h fun v _=>v=.int .i64 z.sign):=by
 have hs:=SS.start g
 refine go Tryz.func68 [(0,.agg #[.bool true,.int .u64 (lo (iabs z)),.string (hi (iabs z))])] rfl ?_
 refine cSL (lA 1 54 ([.bool true,.int .u64 (lo (iabs z)),.string (hi (iabs z))]) hs (fun b1 w2 h3 hs=>?_))
 exact lL hs [.v 2 (.int .i64 0)] (lN (CG.seq (CG.block (cSL (lL hs [.v 4 (.pointer (some ⟨b1,0,none⟩)),.o 5 (.bool true) 0 0 1,.m 3 5] (lN (cIT (cSL (lL hs [.v 2 (.int .i64 (-1))] (lN (CG.ret (hs.ret [] (.int .i64 (-1)) (by rw[Int.sign_eq_neg_one_of_neg (ineg_true hz)])))))))))))))
theorem wSignP (z:Int)(hl:(wds (iabs z)).length≤1000000000)(hz:ineg z=false)(h0:0<iabs z)(w:World)(h:Hp)(g:G w h) :
    Calls Tryz.prog 68 #[.agg #[.bool false,.int .u64 (lo (iabs z)),.string (hi (iabs z))]] w (Ret w h fun v _=>v=.int .i64 z.sign):=by
 have hs:=SS.start g
 have hn0:=(nb_spec h0).2.2
 refine go Tryz.func68 [(0,.agg #[.bool false,.int .u64 (lo (iabs z)),.string (hi (iabs z))])] rfl ?_
 refine cSL (lA 1 54 ([.bool false,.int .u64 (lo (iabs z)),.string (hi (iabs z))]) hs (fun b1 w2 h3 hs=>?_))
 refine lL hs [.v 2 (.int .i64 0)] (lN (CG.seq (CG.block (cSL (lL hs [.v 4 (.pointer (some ⟨b1,0,none⟩)),.o 5 (.bool false) 0 0 1,.m 3 5] (lN (cIF (cSL (lL hs [.v 7 (.pointer (some ⟨b1,1,none⟩)),.o 8 (nv (iabs z)) 0 1 2] (lC 9 hs (nBits (iabs z) aM _ _ hs.g) ?_))))))))))
 rintro _ w4 h5 hs rfl
 have ⟨hb6,phb6⟩:=dT (p:=(0:Int)<((nb (iabs z):Nat):Int)) oM
 refine lB 10 hb6 ?_
 exact lL hs [.m 6 10] (lN (cIT (cSL (lL hs [.v 2 (.int .i64 1)] (lN (CG.ret (hs.ret [] (.int .i64 1) (by rw[Int.sign_eq_one_of_pos (by have:=ineg_false hz;unfold iabs at h0;omega)]))))))))
theorem wSignZ (hl:(wds (iabs 0)).length≤1000000000)(w:World)(h:Hp)(g:G w h) :
    Calls Tryz.prog 68 #[.agg #[.bool false,.int .u64 (lo (iabs 0)),.string (hi (iabs 0))]] w (Ret w h fun v _=>v=.int .i64 0):=by
 have hs:=SS.start g
 have hn0:nb (iabs 0)=0:=rfl
 refine go Tryz.func68 [(0,.agg #[.bool false,.int .u64 (lo (iabs 0)),.string (hi (iabs 0))])] rfl ?_
 refine cSL (lA 1 54 ([.bool false,.int .u64 (lo (iabs 0)),.string (hi (iabs 0))]) hs (fun b1 w2 h3 hs=>?_))
 refine lL hs [.v 2 (.int .i64 0)] (lN (CG.seq (CG.block (cSL (lL hs [.v 4 (.pointer (some ⟨b1,0,none⟩)),.o 5 (.bool false) 0 0 1,.m 3 5] (lN (cIF (cSL (lL hs [.v 7 (.pointer (some ⟨b1,1,none⟩)),.o 8 (nv (iabs 0)) 0 1 2] (lC 9 hs (nBits (iabs 0) aM _ _ hs.g) ?_))))))))))
 rintro _ w4 h5 hs rfl
 have ⟨hb6,phb6⟩:=dF (p:=(0:Int)<((nb (iabs 0):Nat):Int)) oM
 refine lB 10 hb6 ?_
 exact lL hs [.m 6 10] (lN (cIF (CG.skipN (cSL (lL hs [.v 2 (.int .i64 0)] (lN (CG.ret (hs.ret [] (.int .i64 0) rfl))))))))
theorem wSign (z:Int)(hl:(wds (iabs z)).length≤1000000000)(w:World)(h:Hp)(g:G w h):Calls Tryz.prog 68 #[iv z] w (Ret w h fun v _=>v=.int .i64 z.sign):=by
  rcases hz:ineg z with _|_
  · rw[iv_sg hz]
    rcases Nat.eq_zero_or_pos (iabs z) with h0|h0
    · have:z=0:=by unfold iabs at h0;omega
      subst this
      exact wSignZ hl w h g
    · exact wSignP z hl hz h0 w h g
  · rw[iv_sg hz];exact wSignN z hz w h g
theorem wNegF (z:Int)(hl:(wds (iabs z)).length≤1000000000)(hz:ineg z=false)(w:World)(h:Hp)(g:G w h) :
    Calls Tryz.prog 98 #[.agg #[.bool false,.int .u64 (lo (iabs z)),.string (hi (iabs z))]] w (Ret w h fun v _=>v=iv (-z)):=by
 have hs:=SS.start g
 refine go Tryz.func98 [(0,.agg #[.bool false,.int .u64 (lo (iabs z)),.string (hi (iabs z))])] rfl ?_
 refine cSL (lA 1 54 ([.bool false,.int .u64 (lo (iabs z)),.string (hi (iabs z))]) hs (fun b1 w2 h3 hs=>?_))
 refine lA 2 54 ([.bool false,.int .u64 0,.string ⟨#[]⟩]) hs (fun b4 w5 h6 hs=>?_)
 refine lNS (lL hs [.v 3 (.pointer (some ⟨b1,0,none⟩)),.o 4 (.bool false) 1 0 1,.v 5 (.bool true),.v 6 (.pointer (some ⟨b1,1,none⟩)),.o 7 (nv (iabs z)) 1 1 2] (lC 8 hs (wFrom true (iabs z) aM _ _ hs.g) ?_))
 rintro _ w7 h8 hs rfl
 refine lP 0 0 (ic (sgn true (iabs z))) hs (fun w9 hs=>?_)
 exact lN (CG.ret (hs.ret [(0,0,3)] (iv (sgn true (iabs z))) (by have e:=sgn_not z;rw[hz] at e;exact congrArg iv e)))
theorem wNegT (z:Int)(hl:(wds (iabs z)).length≤1000000000)(hz:ineg z=true)(w:World)(h:Hp)(g:G w h) :
    Calls Tryz.prog 98 #[.agg #[.bool true,.int .u64 (lo (iabs z)),.string (hi (iabs z))]] w (Ret w h fun v _=>v=iv (-z)):=by
 have hs:=SS.start g
 refine go Tryz.func98 [(0,.agg #[.bool true,.int .u64 (lo (iabs z)),.string (hi (iabs z))])] rfl ?_
 refine cSL (lA 1 54 ([.bool true,.int .u64 (lo (iabs z)),.string (hi (iabs z))]) hs (fun b1 w2 h3 hs=>?_))
 refine lA 2 54 ([.bool false,.int .u64 0,.string ⟨#[]⟩]) hs (fun b4 w5 h6 hs=>?_)
 refine lNS (lL hs [.v 3 (.pointer (some ⟨b1,0,none⟩)),.o 4 (.bool true) 1 0 1,.v 5 (.bool false),.v 6 (.pointer (some ⟨b1,1,none⟩)),.o 7 (nv (iabs z)) 1 1 2] (lC 8 hs (wFrom false (iabs z) aM _ _ hs.g) ?_))
 rintro _ w7 h8 hs rfl
 refine lP 0 0 (ic (sgn false (iabs z))) hs (fun w9 hs=>?_)
 exact lN (CG.ret (hs.ret [(0,0,3)] (iv (sgn false (iabs z))) (by have e:=sgn_not z;rw[hz] at e;exact congrArg iv e)))
theorem wNeg (z:Int)(hl:(wds (iabs z)).length≤1000000000)(w:World)(h:Hp)(g:G w h):Calls Tryz.prog 98 #[iv z] w (Ret w h fun v _=>v=iv (-z)):=by
  rcases hz:ineg z with _|_<;>rw[iv_sg hz]
  · exact wNegF z hl hz w h g
  · exact wNegT z hl hz w h g
theorem wCmpff (x y:Int)(hlx:(wds (iabs x)).length≤1000000000)(hly:(wds (iabs y)).length≤1000000000)(hx:ineg x=false)(hy:ineg y=false)(w:World)(h:Hp)(g:G w h) :
    Calls Tryz.prog 67 #[.agg #[.bool false,.int .u64 (lo (iabs x)),.string (hi (iabs x))],.agg #[.bool false,.int .u64 (lo (iabs y)),.string (hi (iabs y))]] w (Ret w h fun v _=>v=.int .i64 (cmpI x y)):=by
 have hs:=SS.start g
 refine go Tryz.func67 [(0,.agg #[.bool false,.int .u64 (lo (iabs x)),.string (hi (iabs x))]),(1,.agg #[.bool false,.int .u64 (lo (iabs y)),.string (hi (iabs y))])] rfl ?_
 refine cSL (lA 2 54 ([.bool false,.int .u64 (lo (iabs x)),.string (hi (iabs x))]) hs (fun b1 w2 h3 hs=>?_))
 refine lA 3 54 ([.bool false,.int .u64 (lo (iabs y)),.string (hi (iabs y))]) hs (fun b4 w5 h6 hs=>?_)
 refine lL hs [.v 4 (.int .i64 0)] (lN (CG.seq (CG.block (cSL (lL hs [.v 6 (.pointer (some ⟨b1,0,none⟩)),.o 7 (.bool false) 1 0 1,.m 8 7] (lG 9 ?_))))))
 refine lG 10 ?_
 refine lL hs [.v 11 (.bool false),.m 5 11] (lN (cIF (cSL (lL hs [.v 18 (.pointer (some ⟨b1,0,none⟩)),.o 19 (.bool false) 1 0 1,.m 17 19] (lN (cIF (cSL (lL hs [.v 21 (.pointer (some ⟨b4,0,none⟩)),.o 22 (.bool false) 0 0 1,.m 20 22] (lN (cIF (CG.skipN (cSL (lL hs [.v 23 (.pointer (some ⟨b1,1,none⟩)),.o 24 (nv (iabs x)) 1 1 2,.v 25 (.pointer (some ⟨b4,1,none⟩)),.o 26 (nv (iabs y)) 0 1 2] (lC 27 hs (nCmp (iabs x) (iabs y) aM aM _ _ hs.g) ?_))))))))))))))
 rintro _ w7 h8 hs rfl
 exact lL hs [.m 4 27] (lN (CG.ret (hs.ret [] (.int .i64 (cmpN (iabs x) (iabs y))) (by rw[cmpI_pp (ineg_false hx) (ineg_false hy)]))))
theorem wCmpft (x y:Int)(hlx:(wds (iabs x)).length≤1000000000)(hly:(wds (iabs y)).length≤1000000000)(hx:ineg x=false)(hy:ineg y=true)(w:World)(h:Hp)(g:G w h) :
    Calls Tryz.prog 67 #[.agg #[.bool false,.int .u64 (lo (iabs x)),.string (hi (iabs x))],.agg #[.bool true,.int .u64 (lo (iabs y)),.string (hi (iabs y))]] w (Ret w h fun v _=>v=.int .i64 (cmpI x y)):=by
 have hs:=SS.start g
 refine go Tryz.func67 [(0,.agg #[.bool false,.int .u64 (lo (iabs x)),.string (hi (iabs x))]),(1,.agg #[.bool true,.int .u64 (lo (iabs y)),.string (hi (iabs y))])] rfl ?_
 refine cSL (lA 2 54 ([.bool false,.int .u64 (lo (iabs x)),.string (hi (iabs x))]) hs (fun b1 w2 h3 hs=>?_))
 refine lA 3 54 ([.bool true,.int .u64 (lo (iabs y)),.string (hi (iabs y))]) hs (fun b4 w5 h6 hs=>?_)
 refine lL hs [.v 4 (.int .i64 0)] (lN (CG.seq (CG.block (cSL (lL hs [.v 6 (.pointer (some ⟨b1,0,none⟩)),.o 7 (.bool false) 1 0 1,.m 8 7] (lG 9 ?_))))))
 refine lG 10 ?_
 exact lL hs [.v 11 (.bool false),.m 5 11] (lN (cIF (cSL (lL hs [.v 18 (.pointer (some ⟨b1,0,none⟩)),.o 19 (.bool false) 1 0 1,.m 17 19] (lN (cIF (cSL (lL hs [.v 21 (.pointer (some ⟨b4,0,none⟩)),.o 22 (.bool true) 0 0 1,.m 20 22] (lN (cIT (cSL (lL hs [.v 4 (.int .i64 1)] (lN (CG.ret (hs.ret [] (.int .i64 1) (by rw[cmpI_gt (by have:=ineg_false hx;have:=ineg_true hy;omega)]))))))))))))))))
theorem wCmptf (x y:Int)(hlx:(wds (iabs x)).length≤1000000000)(hly:(wds (iabs y)).length≤1000000000)(hx:ineg x=true)(hy:ineg y=false)(w:World)(h:Hp)(g:G w h) :
    Calls Tryz.prog 67 #[.agg #[.bool true,.int .u64 (lo (iabs x)),.string (hi (iabs x))],.agg #[.bool false,.int .u64 (lo (iabs y)),.string (hi (iabs y))]] w (Ret w h fun v _=>v=.int .i64 (cmpI x y)):=by
 have hs:=SS.start g
 refine go Tryz.func67 [(0,.agg #[.bool true,.int .u64 (lo (iabs x)),.string (hi (iabs x))]),(1,.agg #[.bool false,.int .u64 (lo (iabs y)),.string (hi (iabs y))])] rfl ?_
 refine cSL (lA 2 54 ([.bool true,.int .u64 (lo (iabs x)),.string (hi (iabs x))]) hs (fun b1 w2 h3 hs=>?_))
 refine lA 3 54 ([.bool false,.int .u64 (lo (iabs y)),.string (hi (iabs y))]) hs (fun b4 w5 h6 hs=>?_)
 exact lL hs [.v 4 (.int .i64 0)] (lN (CG.seq (CG.block (cSL (lL hs [.v 6 (.pointer (some ⟨b1,0,none⟩)),.o 7 (.bool true) 1 0 1,.m 8 7,.v 9 (.pointer (some ⟨b4,0,none⟩)),.o 10 (.bool false) 0 0 1,.v 11 (.bool false),.m 5 11] (lN (cIF (cSL (lL hs [.v 18 (.pointer (some ⟨b1,0,none⟩)),.o 19 (.bool true) 1 0 1,.m 17 19] (lN (cIT (cSL (lL hs [.v 4 (.int .i64 (-1))] (lN (CG.ret (hs.ret [] (.int .i64 (-1)) (by rw[cmpI_lt (by have:=ineg_true hx;have:=ineg_false hy;omega)])))))))))))))))))
theorem wCmptt (x y:Int)(hlx:(wds (iabs x)).length≤1000000000)(hly:(wds (iabs y)).length≤1000000000)(hx:ineg x=true)(hy:ineg y=true)(w:World)(h:Hp)(g:G w h) :
    Calls Tryz.prog 67 #[.agg #[.bool true,.int .u64 (lo (iabs x)),.string (hi (iabs x))],.agg #[.bool true,.int .u64 (lo (iabs y)),.string (hi (iabs y))]] w (Ret w h fun v _=>v=.int .i64 (cmpI x y)):=by
 have hs:=SS.start g
 refine go Tryz.func67 [(0,.agg #[.bool true,.int .u64 (lo (iabs x)),.string (hi (iabs x))]),(1,.agg #[.bool true,.int .u64 (lo (iabs y)),.string (hi (iabs y))])] rfl ?_
 refine cSL (lA 2 54 ([.bool true,.int .u64 (lo (iabs x)),.string (hi (iabs x))]) hs (fun b1 w2 h3 hs=>?_))
 refine lA 3 54 ([.bool true,.int .u64 (lo (iabs y)),.string (hi (iabs y))]) hs (fun b4 w5 h6 hs=>?_)
 refine lL hs [.v 4 (.int .i64 0)] (lN (CG.seq (CG.block (cSL (lL hs [.v 6 (.pointer (some ⟨b1,0,none⟩)),.o 7 (.bool true) 1 0 1,.m 8 7,.v 9 (.pointer (some ⟨b4,0,none⟩)),.o 10 (.bool true) 0 0 1,.v 11 (.bool true),.m 5 11] (lN (cIT (cSL (lL hs [.v 12 (.pointer (some ⟨b4,1,none⟩)),.o 13 (nv (iabs y)) 0 1 2,.v 14 (.pointer (some ⟨b1,1,none⟩)),.o 15 (nv (iabs x)) 1 1 2] (lC 16 hs (nCmp (iabs y) (iabs x) aM aM _ _ hs.g) ?_))))))))))
 rintro _ w7 h8 hs rfl
 exact lL hs [.m 4 16] (lN (CG.ret (hs.ret [] (.int .i64 (cmpN (iabs y) (iabs x))) (by rw[cmpI_nn (ineg_true hx) (ineg_true hy)]))))
theorem wCmp (x y:Int)(hlx:(wds (iabs x)).length≤1000000000)(hly:(wds (iabs y)).length≤1000000000)(w:World)(h:Hp)(g:G w h):Calls Tryz.prog 67 #[iv x,iv y] w (Ret w h fun v _=>v=.int .i64 (cmpI x y)):=by
  rcases hx:ineg x with _|_<;>rcases hy:ineg y with _|_<;>rw[iv_sg hx,iv_sg hy]
  · exact wCmpff x y hlx hly hx hy w h g
  · exact wCmpft x y hlx hly hx hy w h g
  · exact wCmptf x y hlx hly hx hy w h g
  · exact wCmptt x y hlx hly hx hy w h g
theorem wAddff (x y:Int)(hlx:(wds (iabs x)).length≤1000000000)(hly:(wds (iabs y)).length≤1000000000)(hls:(wds (iabs x+iabs y)).length≤1000000000)(hx:ineg x=false)(hy:ineg y=false)(w:World)(h:Hp)(g:G w h) :
    Calls Tryz.prog 58 #[.agg #[.bool false,.int .u64 (lo (iabs x)),.string (hi (iabs x))],.agg #[.bool false,.int .u64 (lo (iabs y)),.string (hi (iabs y))]] w (Ret w h fun v _=>v=iv (x+y)):=by
 have hs:=SS.start g
 have hx_:=ineg_false hx
 have hy_:=ineg_false hy
 refine go Tryz.func58 [(0,.agg #[.bool false,.int .u64 (lo (iabs x)),.string (hi (iabs x))]),(1,.agg #[.bool false,.int .u64 (lo (iabs y)),.string (hi (iabs y))])] rfl ?_
 refine cSL (lA 2 54 ([.bool false,.int .u64 (lo (iabs x)),.string (hi (iabs x))]) hs (fun b1 w2 h3 hs=>?_))
 refine lA 3 54 ([.bool false,.int .u64 (lo (iabs y)),.string (hi (iabs y))]) hs (fun b4 w5 h6 hs=>?_)
 refine lA 4 54 ([.bool false,.int .u64 0,.string ⟨#[]⟩]) hs (fun b7 w8 h9 hs=>?_)
 refine lN (CG.seq (cSL (lL hs [.v 9 (.pointer (some ⟨b1,0,none⟩)),.o 10 (.bool false) 2 0 1,.v 11 (.pointer (some ⟨b4,0,none⟩)),.o 12 (.bool false) 1 0 1,.v 13 (.bool true)] (lN (cIT (CG.seq (cR 8 [] mixed hs al_nil ?_)))))))
 refine eV 0 14 (.pointer (some ⟨b1,0,none⟩)) ?_
 refine eO 1 15 [(2,0,1)] (.bool false) hs ?_
 refine eV 2 16 (.pointer (some ⟨b1,1,none⟩)) ?_
 refine eO 3 17 [(2,1,2)] (nv (iabs x)) hs ?_
 refine eV 4 18 (.pointer (some ⟨b4,1,none⟩)) ?_
 refine eO 5 19 [(1,1,2)] (nv (iabs y)) hs ?_
 refine eC 6 20 hs (fun _ _ hs=>nAdd (iabs x) (iabs y) aM aM _ _ hs.g) ?_
 rintro _ _ _ w10 h11 hs rfl
 refine eC 7 21 hs (fun _ _ hs=>wFrom false ((iabs x)+(iabs y)) (by first|assumption|exact wds_len_le (Nat.sub_le _ _) aM) _ _ hs.g) ?_
 rintro _ _ _ w12 h13 hs rfl
 refine eD0 hs (fun w14 h15 hs=>?_)
 refine tP 8 0 0 (ic (sgn false ((iabs x)+(iabs y)))) hs (fun w16 hs=>?_)
 exact tN (CG.ret (hs.ret [(0,0,3)] (iv (sgn false ((iabs x)+(iabs y)))) (congrArg iv (by unfold sgn iabs at *;simp;omega))))
theorem wAddftG (x y:Int)(hlx:(wds (iabs x)).length≤1000000000)(hly:(wds (iabs y)).length≤1000000000)(hls:(wds (iabs x+iabs y)).length≤1000000000)(hx:ineg x=false)(hy:ineg y=true)(hge:iabs y≤iabs x)(w:World)(h:Hp)(g:G w h) :
    Calls Tryz.prog 58 #[.agg #[.bool false,.int .u64 (lo (iabs x)),.string (hi (iabs x))],.agg #[.bool true,.int .u64 (lo (iabs y)),.string (hi (iabs y))]] w (Ret w h fun v _=>v=iv (x+y)):=by
 have hs:=SS.start g
 have hx_:=ineg_false hx
 have hy_:=ineg_true hy
 refine go Tryz.func58 [(0,.agg #[.bool false,.int .u64 (lo (iabs x)),.string (hi (iabs x))]),(1,.agg #[.bool true,.int .u64 (lo (iabs y)),.string (hi (iabs y))])] rfl ?_
 refine cSL (lA 2 54 ([.bool false,.int .u64 (lo (iabs x)),.string (hi (iabs x))]) hs (fun b1 w2 h3 hs=>?_))
 refine lA 3 54 ([.bool true,.int .u64 (lo (iabs y)),.string (hi (iabs y))]) hs (fun b4 w5 h6 hs=>?_)
 refine lA 4 54 ([.bool false,.int .u64 0,.string ⟨#[]⟩]) hs (fun b7 w8 h9 hs=>?_)
 refine lN (CG.seq (cSL (lL hs [.v 9 (.pointer (some ⟨b1,0,none⟩)),.o 10 (.bool false) 2 0 1,.v 11 (.pointer (some ⟨b4,0,none⟩)),.o 12 (.bool true) 1 0 1,.v 13 (.bool false)] (lN (cIF (CG.skipN (CG.seq (cSL (lL hs [.v 23 (.pointer (some ⟨b1,1,none⟩)),.o 24 (nv (iabs x)) 2 1 2,.v 25 (.pointer (some ⟨b4,1,none⟩)),.o 26 (nv (iabs y)) 1 1 2] (lC 27 hs (nSub (iabs x) (iabs y) oM aM aM _ _ hs.g) ?_))))))))))
 rintro _ w10 h11 hs rfl
 refine lL hs [.m 22 27,.v 28 (nv ((iabs x)-(iabs y))),.v 29 (.bool true)] (lA 5 52 ([.int .u64 0,.string ⟨#[]⟩]) hs (fun b12 w13 h14 hs=>?_))
 refine lP 0 0 (nc ((iabs x)-(iabs y))) hs (fun w15 hs=>?_)
 refine lL hs [.m 6 29] (lNS (lL hs [.m 30 6] (lN (cIT (cSL (lL hs [.v 31 (.pointer (some ⟨b1,0,none⟩)),.o 32 (.bool false) 3 0 1,.o 33 (nv ((iabs x)-(iabs y))) 0 0 2] (lC 34 hs (wFrom false ((iabs x)-(iabs y)) (by first|assumption|exact wds_len_le (Nat.sub_le _ _) aM) _ _ hs.g) ?_)))))))
 rintro _ w16 h17 hs rfl
 refine lP 1 0 (ic (sgn false ((iabs x)-(iabs y)))) hs (fun w18 hs=>?_)
 exact lN (CG.ret (hs.ret [(1,0,3)] (iv (sgn false ((iabs x)-(iabs y)))) (congrArg iv (by unfold sgn iabs at *;simp;omega))))
theorem wAddftL (x y:Int)(hlx:(wds (iabs x)).length≤1000000000)(hly:(wds (iabs y)).length≤1000000000)(hls:(wds (iabs x+iabs y)).length≤1000000000)(hx:ineg x=false)(hy:ineg y=true)(hlt:iabs x<iabs y)(w:World)(h:Hp)(g:G w h) :
    Calls Tryz.prog 58 #[.agg #[.bool false,.int .u64 (lo (iabs x)),.string (hi (iabs x))],.agg #[.bool true,.int .u64 (lo (iabs y)),.string (hi (iabs y))]] w (Ret w h fun v _=>v=iv (x+y)):=by
 have hs:=SS.start g
 have hx_:=ineg_false hx
 have hy_:=ineg_true hy
 refine go Tryz.func58 [(0,.agg #[.bool false,.int .u64 (lo (iabs x)),.string (hi (iabs x))]),(1,.agg #[.bool true,.int .u64 (lo (iabs y)),.string (hi (iabs y))])] rfl ?_
 refine cSL (lA 2 54 ([.bool false,.int .u64 (lo (iabs x)),.string (hi (iabs x))]) hs (fun b1 w2 h3 hs=>?_))
 refine lA 3 54 ([.bool true,.int .u64 (lo (iabs y)),.string (hi (iabs y))]) hs (fun b4 w5 h6 hs=>?_)
 refine lA 4 54 ([.bool false,.int .u64 0,.string ⟨#[]⟩]) hs (fun b7 w8 h9 hs=>?_)
 refine lN (CG.seq (cSL (lL hs [.v 9 (.pointer (some ⟨b1,0,none⟩)),.o 10 (.bool false) 2 0 1,.v 11 (.pointer (some ⟨b4,0,none⟩)),.o 12 (.bool true) 1 0 1,.v 13 (.bool false)] (lN (cIF (CG.skipN (CG.seq (cSL (lL hs [.v 23 (.pointer (some ⟨b1,1,none⟩)),.o 24 (nv (iabs x)) 2 1 2,.v 25 (.pointer (some ⟨b4,1,none⟩)),.o 26 (nv (iabs y)) 1 1 2] (lC 27 hs (nSubN (iabs x) (iabs y) oM aM aM _ _ hs.g) ?_))))))))))
 rintro _ w10 h11 hs rfl
 refine lL hs [.m 22 27,.v 28 (nv 0),.v 29 (.bool false)] (lA 5 52 ([.int .u64 0,.string ⟨#[]⟩]) hs (fun b12 w13 h14 hs=>?_))
 refine lP 0 0 (nc 0) hs (fun w15 hs=>?_)
 refine lL hs [.m 6 29] (lNS (lL hs [.m 30 6] (lN (cIF (CG.skipN (cSL (lL hs [.v 36 (.pointer (some ⟨b4,1,none⟩)),.o 37 (nv (iabs y)) 2 1 2,.v 38 (.pointer (some ⟨b1,1,none⟩)),.o 39 (nv (iabs x)) 3 1 2] (lC 40 hs (nSub (iabs y) (iabs x) oM aM aM _ _ hs.g) ?_))))))))
 rintro _ w16 h17 hs rfl
 refine lL hs [.m 35 40,.v 41 (nv ((iabs y)-(iabs x))),.v 42 (.bool true)] (lA 7 52 ([.int .u64 0,.string ⟨#[]⟩]) hs (fun b18 w19 h20 hs=>?_))
 refine lP 0 0 (nc ((iabs y)-(iabs x))) hs (fun w21 hs=>?_)
 refine lL hs [.m 8 42] (lNS (lL hs [.v 43 (.pointer (some ⟨b4,0,none⟩)),.o 44 (.bool true) 3 0 1,.o 45 (nv ((iabs y)-(iabs x))) 0 0 2] (lC 46 hs (wFrom true ((iabs y)-(iabs x)) (by first|assumption|exact wds_len_le (Nat.sub_le _ _) aM) _ _ hs.g) ?_)))
 rintro _ w22 h23 hs rfl
 refine lP 2 0 (ic (sgn true ((iabs y)-(iabs x)))) hs (fun w24 hs=>?_)
 exact lN (CG.ret (hs.ret [(2,0,3)] (iv (sgn true ((iabs y)-(iabs x)))) (congrArg iv (by unfold sgn iabs at *;simp;omega))))
theorem wAddtfG (x y:Int)(hlx:(wds (iabs x)).length≤1000000000)(hly:(wds (iabs y)).length≤1000000000)(hls:(wds (iabs x+iabs y)).length≤1000000000)(hx:ineg x=true)(hy:ineg y=false)(hge:iabs y≤iabs x)(w:World)(h:Hp)(g:G w h) :
    Calls Tryz.prog 58 #[.agg #[.bool true,.int .u64 (lo (iabs x)),.string (hi (iabs x))],.agg #[.bool false,.int .u64 (lo (iabs y)),.string (hi (iabs y))]] w (Ret w h fun v _=>v=iv (x+y)):=by
 have hs:=SS.start g
 have hx_:=ineg_true hx
 have hy_:=ineg_false hy
 refine go Tryz.func58 [(0,.agg #[.bool true,.int .u64 (lo (iabs x)),.string (hi (iabs x))]),(1,.agg #[.bool false,.int .u64 (lo (iabs y)),.string (hi (iabs y))])] rfl ?_
 refine cSL (lA 2 54 ([.bool true,.int .u64 (lo (iabs x)),.string (hi (iabs x))]) hs (fun b1 w2 h3 hs=>?_))
 refine lA 3 54 ([.bool false,.int .u64 (lo (iabs y)),.string (hi (iabs y))]) hs (fun b4 w5 h6 hs=>?_)
 refine lA 4 54 ([.bool false,.int .u64 0,.string ⟨#[]⟩]) hs (fun b7 w8 h9 hs=>?_)
 refine lN (CG.seq (cSL (lL hs [.v 9 (.pointer (some ⟨b1,0,none⟩)),.o 10 (.bool true) 2 0 1,.v 11 (.pointer (some ⟨b4,0,none⟩)),.o 12 (.bool false) 1 0 1,.v 13 (.bool false)] (lN (cIF (CG.skipN (CG.seq (cSL (lL hs [.v 23 (.pointer (some ⟨b1,1,none⟩)),.o 24 (nv (iabs x)) 2 1 2,.v 25 (.pointer (some ⟨b4,1,none⟩)),.o 26 (nv (iabs y)) 1 1 2] (lC 27 hs (nSub (iabs x) (iabs y) oM aM aM _ _ hs.g) ?_))))))))))
 rintro _ w10 h11 hs rfl
 refine lL hs [.m 22 27,.v 28 (nv ((iabs x)-(iabs y))),.v 29 (.bool true)] (lA 5 52 ([.int .u64 0,.string ⟨#[]⟩]) hs (fun b12 w13 h14 hs=>?_))
 refine lP 0 0 (nc ((iabs x)-(iabs y))) hs (fun w15 hs=>?_)
 refine lL hs [.m 6 29] (lNS (lL hs [.m 30 6] (lN (cIT (cSL (lL hs [.v 31 (.pointer (some ⟨b1,0,none⟩)),.o 32 (.bool true) 3 0 1,.o 33 (nv ((iabs x)-(iabs y))) 0 0 2] (lC 34 hs (wFrom true ((iabs x)-(iabs y)) (by first|assumption|exact wds_len_le (Nat.sub_le _ _) aM) _ _ hs.g) ?_)))))))
 rintro _ w16 h17 hs rfl
 refine lP 1 0 (ic (sgn true ((iabs x)-(iabs y)))) hs (fun w18 hs=>?_)
 exact lN (CG.ret (hs.ret [(1,0,3)] (iv (sgn true ((iabs x)-(iabs y)))) (congrArg iv (by unfold sgn iabs at *;simp;omega))))
theorem wAddtfL (x y:Int)(hlx:(wds (iabs x)).length≤1000000000)(hly:(wds (iabs y)).length≤1000000000)(hls:(wds (iabs x+iabs y)).length≤1000000000)(hx:ineg x=true)(hy:ineg y=false)(hlt:iabs x<iabs y)(w:World)(h:Hp)(g:G w h) :
    Calls Tryz.prog 58 #[.agg #[.bool true,.int .u64 (lo (iabs x)),.string (hi (iabs x))],.agg #[.bool false,.int .u64 (lo (iabs y)),.string (hi (iabs y))]] w (Ret w h fun v _=>v=iv (x+y)):=by
 have hs:=SS.start g
 have hx_:=ineg_true hx
 have hy_:=ineg_false hy
 refine go Tryz.func58 [(0,.agg #[.bool true,.int .u64 (lo (iabs x)),.string (hi (iabs x))]),(1,.agg #[.bool false,.int .u64 (lo (iabs y)),.string (hi (iabs y))])] rfl ?_
 refine cSL (lA 2 54 ([.bool true,.int .u64 (lo (iabs x)),.string (hi (iabs x))]) hs (fun b1 w2 h3 hs=>?_))
 refine lA 3 54 ([.bool false,.int .u64 (lo (iabs y)),.string (hi (iabs y))]) hs (fun b4 w5 h6 hs=>?_)
 refine lA 4 54 ([.bool false,.int .u64 0,.string ⟨#[]⟩]) hs (fun b7 w8 h9 hs=>?_)
 refine lN (CG.seq (cSL (lL hs [.v 9 (.pointer (some ⟨b1,0,none⟩)),.o 10 (.bool true) 2 0 1,.v 11 (.pointer (some ⟨b4,0,none⟩)),.o 12 (.bool false) 1 0 1,.v 13 (.bool false)] (lN (cIF (CG.skipN (CG.seq (cSL (lL hs [.v 23 (.pointer (some ⟨b1,1,none⟩)),.o 24 (nv (iabs x)) 2 1 2,.v 25 (.pointer (some ⟨b4,1,none⟩)),.o 26 (nv (iabs y)) 1 1 2] (lC 27 hs (nSubN (iabs x) (iabs y) oM aM aM _ _ hs.g) ?_))))))))))
 rintro _ w10 h11 hs rfl
 refine lL hs [.m 22 27,.v 28 (nv 0),.v 29 (.bool false)] (lA 5 52 ([.int .u64 0,.string ⟨#[]⟩]) hs (fun b12 w13 h14 hs=>?_))
 refine lP 0 0 (nc 0) hs (fun w15 hs=>?_)
 refine lL hs [.m 6 29] (lNS (lL hs [.m 30 6] (lN (cIF (CG.skipN (cSL (lL hs [.v 36 (.pointer (some ⟨b4,1,none⟩)),.o 37 (nv (iabs y)) 2 1 2,.v 38 (.pointer (some ⟨b1,1,none⟩)),.o 39 (nv (iabs x)) 3 1 2] (lC 40 hs (nSub (iabs y) (iabs x) oM aM aM _ _ hs.g) ?_))))))))
 rintro _ w16 h17 hs rfl
 refine lL hs [.m 35 40,.v 41 (nv ((iabs y)-(iabs x))),.v 42 (.bool true)] (lA 7 52 ([.int .u64 0,.string ⟨#[]⟩]) hs (fun b18 w19 h20 hs=>?_))
 refine lP 0 0 (nc ((iabs y)-(iabs x))) hs (fun w21 hs=>?_)
 refine lL hs [.m 8 42] (lNS (lL hs [.v 43 (.pointer (some ⟨b4,0,none⟩)),.o 44 (.bool false) 3 0 1,.o 45 (nv ((iabs y)-(iabs x))) 0 0 2] (lC 46 hs (wFrom false ((iabs y)-(iabs x)) (by first|assumption|exact wds_len_le (Nat.sub_le _ _) aM) _ _ hs.g) ?_)))
 rintro _ w22 h23 hs rfl
 refine lP 2 0 (ic (sgn false ((iabs y)-(iabs x)))) hs (fun w24 hs=>?_)
 exact lN (CG.ret (hs.ret [(2,0,3)] (iv (sgn false ((iabs y)-(iabs x)))) (congrArg iv (by unfold sgn iabs at *;simp;omega))))
theorem wAddtt (x y:Int)(hlx:(wds (iabs x)).length≤1000000000)(hly:(wds (iabs y)).length≤1000000000)(hls:(wds (iabs x+iabs y)).length≤1000000000)(hx:ineg x=true)(hy:ineg y=true)(w:World)(h:Hp)(g:G w h) :
    Calls Tryz.prog 58 #[.agg #[.bool true,.int .u64 (lo (iabs x)),.string (hi (iabs x))],.agg #[.bool true,.int .u64 (lo (iabs y)),.string (hi (iabs y))]] w (Ret w h fun v _=>v=iv (x+y)):=by
 have hs:=SS.start g
 have hx_:=ineg_true hx
 have hy_:=ineg_true hy
 refine go Tryz.func58 [(0,.agg #[.bool true,.int .u64 (lo (iabs x)),.string (hi (iabs x))]),(1,.agg #[.bool true,.int .u64 (lo (iabs y)),.string (hi (iabs y))])] rfl ?_
 refine cSL (lA 2 54 ([.bool true,.int .u64 (lo (iabs x)),.string (hi (iabs x))]) hs (fun b1 w2 h3 hs=>?_))
 refine lA 3 54 ([.bool true,.int .u64 (lo (iabs y)),.string (hi (iabs y))]) hs (fun b4 w5 h6 hs=>?_)
 refine lA 4 54 ([.bool false,.int .u64 0,.string ⟨#[]⟩]) hs (fun b7 w8 h9 hs=>?_)
 refine lN (CG.seq (cSL (lL hs [.v 9 (.pointer (some ⟨b1,0,none⟩)),.o 10 (.bool true) 2 0 1,.v 11 (.pointer (some ⟨b4,0,none⟩)),.o 12 (.bool true) 1 0 1,.v 13 (.bool true)] (lN (cIT (CG.seq (cR 8 [] mixed hs al_nil ?_)))))))
 refine eV 0 14 (.pointer (some ⟨b1,0,none⟩)) ?_
 refine eO 1 15 [(2,0,1)] (.bool true) hs ?_
 refine eV 2 16 (.pointer (some ⟨b1,1,none⟩)) ?_
 refine eO 3 17 [(2,1,2)] (nv (iabs x)) hs ?_
 refine eV 4 18 (.pointer (some ⟨b4,1,none⟩)) ?_
 refine eO 5 19 [(1,1,2)] (nv (iabs y)) hs ?_
 refine eC 6 20 hs (fun _ _ hs=>nAdd (iabs x) (iabs y) aM aM _ _ hs.g) ?_
 rintro _ _ _ w10 h11 hs rfl
 refine eC 7 21 hs (fun _ _ hs=>wFrom true ((iabs x)+(iabs y)) (by first|assumption|exact wds_len_le (Nat.sub_le _ _) aM) _ _ hs.g) ?_
 rintro _ _ _ w12 h13 hs rfl
 refine eD0 hs (fun w14 h15 hs=>?_)
 refine tP 8 0 0 (ic (sgn true ((iabs x)+(iabs y)))) hs (fun w16 hs=>?_)
 exact tN (CG.ret (hs.ret [(0,0,3)] (iv (sgn true ((iabs x)+(iabs y)))) (congrArg iv (by unfold sgn iabs at *;simp;omega))))
theorem wMulff (x y:Int)(hlx:(wds (iabs x)).length≤1000000000)(hly:(wds (iabs y)).length≤1000000000)(hls:(wds (iabs x*iabs y)).length≤1000000000)(hx:ineg x=false)(hy:ineg y=false)(w:World)(h:Hp)(g:G w h) :
    Calls Tryz.prog 97 #[.agg #[.bool false,.int .u64 (lo (iabs x)),.string (hi (iabs x))],.agg #[.bool false,.int .u64 (lo (iabs y)),.string (hi (iabs y))]] w (Ret w h fun v _=>v=iv (x*y)):=by
 have hs:=SS.start g
 have hx_:=ineg_false hx
 have hy_:=ineg_false hy
 refine go Tryz.func97 [(0,.agg #[.bool false,.int .u64 (lo (iabs x)),.string (hi (iabs x))]),(1,.agg #[.bool false,.int .u64 (lo (iabs y)),.string (hi (iabs y))])] rfl ?_
 refine cSL (lA 2 54 ([.bool false,.int .u64 (lo (iabs x)),.string (hi (iabs x))]) hs (fun b1 w2 h3 hs=>?_))
 refine lA 3 54 ([.bool false,.int .u64 (lo (iabs y)),.string (hi (iabs y))]) hs (fun b4 w5 h6 hs=>?_)
 refine lA 4 54 ([.bool false,.int .u64 0,.string ⟨#[]⟩]) hs (fun b7 w8 h9 hs=>?_)
 refine lN (CG.seq (cR 11 [] mixed hs al_nil ?_))
 refine eV 0 5 (.pointer (some ⟨b1,0,none⟩)) ?_
 refine eO 1 6 [(2,0,1)] (.bool false) hs ?_
 refine eV 2 7 (.pointer (some ⟨b4,0,none⟩)) ?_
 refine eO 3 8 [(1,0,1)] (.bool false) hs ?_
 refine eV 4 9 (.bool false) ?_
 refine eV 5 10 (.pointer (some ⟨b1,1,none⟩)) ?_
 refine eO 6 11 [(2,1,2)] (nv (iabs x)) hs ?_
 refine eV 7 12 (.pointer (some ⟨b4,1,none⟩)) ?_
 refine eO 8 13 [(1,1,2)] (nv (iabs y)) hs ?_
 refine eC 9 14 hs (fun _ _ hs=>nMul (iabs x) (iabs y) aM aM _ _ hs.g) ?_
 rintro _ _ _ w10 h11 hs rfl
 refine eC 10 15 hs (fun _ _ hs=>wFrom false ((iabs x)*(iabs y)) aM _ _ hs.g) ?_
 rintro _ _ _ w12 h13 hs rfl
 refine eD0 hs (fun w14 h15 hs=>?_)
 refine tP 11 0 0 (ic (sgn false ((iabs x)*(iabs y)))) hs (fun w16 hs=>?_)
 exact tN (CG.ret (hs.ret [(0,0,3)] (iv (sgn false ((iabs x)*(iabs y)))) (by rw[←mul_sg x y,hx,hy];rfl)))
theorem wMulft (x y:Int)(hlx:(wds (iabs x)).length≤1000000000)(hly:(wds (iabs y)).length≤1000000000)(hls:(wds (iabs x*iabs y)).length≤1000000000)(hx:ineg x=false)(hy:ineg y=true)(w:World)(h:Hp)(g:G w h) :
    Calls Tryz.prog 97 #[.agg #[.bool false,.int .u64 (lo (iabs x)),.string (hi (iabs x))],.agg #[.bool true,.int .u64 (lo (iabs y)),.string (hi (iabs y))]] w (Ret w h fun v _=>v=iv (x*y)):=by
 have hs:=SS.start g
 have hx_:=ineg_false hx
 have hy_:=ineg_true hy
 refine go Tryz.func97 [(0,.agg #[.bool false,.int .u64 (lo (iabs x)),.string (hi (iabs x))]),(1,.agg #[.bool true,.int .u64 (lo (iabs y)),.string (hi (iabs y))])] rfl ?_
 refine cSL (lA 2 54 ([.bool false,.int .u64 (lo (iabs x)),.string (hi (iabs x))]) hs (fun b1 w2 h3 hs=>?_))
 refine lA 3 54 ([.bool true,.int .u64 (lo (iabs y)),.string (hi (iabs y))]) hs (fun b4 w5 h6 hs=>?_)
 refine lA 4 54 ([.bool false,.int .u64 0,.string ⟨#[]⟩]) hs (fun b7 w8 h9 hs=>?_)
 refine lN (CG.seq (cR 11 [] mixed hs al_nil ?_))
 refine eV 0 5 (.pointer (some ⟨b1,0,none⟩)) ?_
 refine eO 1 6 [(2,0,1)] (.bool false) hs ?_
 refine eV 2 7 (.pointer (some ⟨b4,0,none⟩)) ?_
 refine eO 3 8 [(1,0,1)] (.bool true) hs ?_
 refine eV 4 9 (.bool true) ?_
 refine eV 5 10 (.pointer (some ⟨b1,1,none⟩)) ?_
 refine eO 6 11 [(2,1,2)] (nv (iabs x)) hs ?_
 refine eV 7 12 (.pointer (some ⟨b4,1,none⟩)) ?_
 refine eO 8 13 [(1,1,2)] (nv (iabs y)) hs ?_
 refine eC 9 14 hs (fun _ _ hs=>nMul (iabs x) (iabs y) aM aM _ _ hs.g) ?_
 rintro _ _ _ w10 h11 hs rfl
 refine eC 10 15 hs (fun _ _ hs=>wFrom true ((iabs x)*(iabs y)) aM _ _ hs.g) ?_
 rintro _ _ _ w12 h13 hs rfl
 refine eD0 hs (fun w14 h15 hs=>?_)
 refine tP 11 0 0 (ic (sgn true ((iabs x)*(iabs y)))) hs (fun w16 hs=>?_)
 exact tN (CG.ret (hs.ret [(0,0,3)] (iv (sgn true ((iabs x)*(iabs y)))) (by rw[←mul_sg x y,hx,hy];rfl)))
theorem wMultf (x y:Int)(hlx:(wds (iabs x)).length≤1000000000)(hly:(wds (iabs y)).length≤1000000000)(hls:(wds (iabs x*iabs y)).length≤1000000000)(hx:ineg x=true)(hy:ineg y=false)(w:World)(h:Hp)(g:G w h) :
    Calls Tryz.prog 97 #[.agg #[.bool true,.int .u64 (lo (iabs x)),.string (hi (iabs x))],.agg #[.bool false,.int .u64 (lo (iabs y)),.string (hi (iabs y))]] w (Ret w h fun v _=>v=iv (x*y)):=by
 have hs:=SS.start g
 have hx_:=ineg_true hx
 have hy_:=ineg_false hy
 refine go Tryz.func97 [(0,.agg #[.bool true,.int .u64 (lo (iabs x)),.string (hi (iabs x))]),(1,.agg #[.bool false,.int .u64 (lo (iabs y)),.string (hi (iabs y))])] rfl ?_
 refine cSL (lA 2 54 ([.bool true,.int .u64 (lo (iabs x)),.string (hi (iabs x))]) hs (fun b1 w2 h3 hs=>?_))
 refine lA 3 54 ([.bool false,.int .u64 (lo (iabs y)),.string (hi (iabs y))]) hs (fun b4 w5 h6 hs=>?_)
 refine lA 4 54 ([.bool false,.int .u64 0,.string ⟨#[]⟩]) hs (fun b7 w8 h9 hs=>?_)
 refine lN (CG.seq (cR 11 [] mixed hs al_nil ?_))
 refine eV 0 5 (.pointer (some ⟨b1,0,none⟩)) ?_
 refine eO 1 6 [(2,0,1)] (.bool true) hs ?_
 refine eV 2 7 (.pointer (some ⟨b4,0,none⟩)) ?_
 refine eO 3 8 [(1,0,1)] (.bool false) hs ?_
 refine eV 4 9 (.bool true) ?_
 refine eV 5 10 (.pointer (some ⟨b1,1,none⟩)) ?_
 refine eO 6 11 [(2,1,2)] (nv (iabs x)) hs ?_
 refine eV 7 12 (.pointer (some ⟨b4,1,none⟩)) ?_
 refine eO 8 13 [(1,1,2)] (nv (iabs y)) hs ?_
 refine eC 9 14 hs (fun _ _ hs=>nMul (iabs x) (iabs y) aM aM _ _ hs.g) ?_
 rintro _ _ _ w10 h11 hs rfl
 refine eC 10 15 hs (fun _ _ hs=>wFrom true ((iabs x)*(iabs y)) aM _ _ hs.g) ?_
 rintro _ _ _ w12 h13 hs rfl
 refine eD0 hs (fun w14 h15 hs=>?_)
 refine tP 11 0 0 (ic (sgn true ((iabs x)*(iabs y)))) hs (fun w16 hs=>?_)
 exact tN (CG.ret (hs.ret [(0,0,3)] (iv (sgn true ((iabs x)*(iabs y)))) (by rw[←mul_sg x y,hx,hy];rfl)))
theorem wMultt (x y:Int)(hlx:(wds (iabs x)).length≤1000000000)(hly:(wds (iabs y)).length≤1000000000)(hls:(wds (iabs x*iabs y)).length≤1000000000)(hx:ineg x=true)(hy:ineg y=true)(w:World)(h:Hp)(g:G w h) :
    Calls Tryz.prog 97 #[.agg #[.bool true,.int .u64 (lo (iabs x)),.string (hi (iabs x))],.agg #[.bool true,.int .u64 (lo (iabs y)),.string (hi (iabs y))]] w (Ret w h fun v _=>v=iv (x*y)):=by
 have hs:=SS.start g
 have hx_:=ineg_true hx
 have hy_:=ineg_true hy
 refine go Tryz.func97 [(0,.agg #[.bool true,.int .u64 (lo (iabs x)),.string (hi (iabs x))]),(1,.agg #[.bool true,.int .u64 (lo (iabs y)),.string (hi (iabs y))])] rfl ?_
 refine cSL (lA 2 54 ([.bool true,.int .u64 (lo (iabs x)),.string (hi (iabs x))]) hs (fun b1 w2 h3 hs=>?_))
 refine lA 3 54 ([.bool true,.int .u64 (lo (iabs y)),.string (hi (iabs y))]) hs (fun b4 w5 h6 hs=>?_)
 refine lA 4 54 ([.bool false,.int .u64 0,.string ⟨#[]⟩]) hs (fun b7 w8 h9 hs=>?_)
 refine lN (CG.seq (cR 11 [] mixed hs al_nil ?_))
 refine eV 0 5 (.pointer (some ⟨b1,0,none⟩)) ?_
 refine eO 1 6 [(2,0,1)] (.bool true) hs ?_
 refine eV 2 7 (.pointer (some ⟨b4,0,none⟩)) ?_
 refine eO 3 8 [(1,0,1)] (.bool true) hs ?_
 refine eV 4 9 (.bool false) ?_
 refine eV 5 10 (.pointer (some ⟨b1,1,none⟩)) ?_
 refine eO 6 11 [(2,1,2)] (nv (iabs x)) hs ?_
 refine eV 7 12 (.pointer (some ⟨b4,1,none⟩)) ?_
 refine eO 8 13 [(1,1,2)] (nv (iabs y)) hs ?_
 refine eC 9 14 hs (fun _ _ hs=>nMul (iabs x) (iabs y) aM aM _ _ hs.g) ?_
 rintro _ _ _ w10 h11 hs rfl
 refine eC 10 15 hs (fun _ _ hs=>wFrom false ((iabs x)*(iabs y)) aM _ _ hs.g) ?_
 rintro _ _ _ w12 h13 hs rfl
 refine eD0 hs (fun w14 h15 hs=>?_)
 refine tP 11 0 0 (ic (sgn false ((iabs x)*(iabs y)))) hs (fun w16 hs=>?_)
 exact tN (CG.ret (hs.ret [(0,0,3)] (iv (sgn false ((iabs x)*(iabs y)))) (by rw[←mul_sg x y,hx,hy];rfl)))
theorem wAdd (x y:Int)(hl:(wds (iabs x)).length+(wds (iabs y)).length≤999999999)(w:World)(h:Hp)(g:G w h):Calls Tryz.prog 58 #[iv x,iv y] w (Ret w h fun v _=>v=iv (x+y)):=by
  have hls:(wds (iabs x+iabs y)).length≤1000000000:=Nat.le_trans wds_len_add oM
  rcases hx:ineg x with _|_<;>rcases hy:ineg y with _|_<;>rw[iv_sg hx,iv_sg hy]
  · exact wAddff x y oM oM hls hx hy w h g
  · rcases Nat.lt_or_ge (iabs x) (iabs y) with hc|hc
    · exact wAddftL x y oM oM hls hx hy hc w h g
    · exact wAddftG x y oM oM hls hx hy hc w h g
  · rcases Nat.lt_or_ge (iabs x) (iabs y) with hc|hc
    · exact wAddtfL x y oM oM hls hx hy hc w h g
    · exact wAddtfG x y oM oM hls hx hy hc w h g
  · exact wAddtt x y oM oM hls hx hy w h g
theorem wMul (x y:Int)(hl:(wds (iabs x)).length+(wds (iabs y)).length≤1000000000)(w:World)(h:Hp)(g:G w h):Calls Tryz.prog 97 #[iv x,iv y] w (Ret w h fun v _=>v=iv (x*y)):=by
  have hls:(wds (iabs x*iabs y)).length≤1000000000:=Nat.le_trans wds_len_mul oM
  rcases hx:ineg x with _|_<;>rcases hy:ineg y with _|_<;>rw[iv_sg hx,iv_sg hy]
  · exact wMulff x y oM oM hls hx hy w h g
  · exact wMulft x y oM oM hls hx hy w h g
  · exact wMultf x y oM oM hls hx hy w h g
  · exact wMultt x y oM oM hls hx hy w h g
theorem nBytes (n:Nat)(hl:(wds n).length≤1000000000)(w:World)(h:Hp)(g:G w h) :
    Calls Tryz.prog 149 #[nv n] w (Ret w h fun v h1=>∃ A,v=.slice A ((nb n+7)/8) ((nb n+7)/8)∧SlO 1 u8c 0 h1 A (byt n ((nb n+7)/8))):=by
 have hs:=SS.start g
 have hnb:=nb_len64 n
 have hwl:=wds_len_nb n
 refine go Tryz.func149 [(0,nv n)] rfl ?_
 refine cSL (lA 1 52 (nc n) hs (fun b1 w2 h3 hs=>?_))
 refine lL hs [.v 2 (.slice none 0 0)] (lNS (lL hs [.o 7 (nv n) 0 0 2] (lC 8 hs (nBits n hl _ _ hs.g) ?_)))
 rintro _ w4 h5 hs rfl
 refine lIn 9 ((nb n:Nat)+7) ((nb n)+7) ?_
 refine lV 10 (.int .i64 (((nb n)+7)/8:Nat)) ?_ (hr:=rint (opQuo (t:=3) (u:=3) (x:=.tmp 9) (y:=.const (.int .i64 8)) (k:=.i64) (a:=(((nb n)+7:Nat):Int)) (b:=(8:Int)) kR kR kR oM _) (quoI64 ((nb n)+7) 8 oM))
 refine lL hs [.m 3 10] (lNS (lL hs [.m 11 3] (lK 12 5 (((nb n)+7)/8:Nat) 1 1 (.int .u8 0) u8c 0 hs (fun b6 w7 h8 hs=>?_))))
 have hl9:(List.replicate (((nb n)+7)/8:Nat) 0).length=(((nb n)+7)/8:Nat):=by simp
 refine lL hs [.m 4 12] (lNS (lL hs [.o 13 (nv n) 1 0 2] (lC 14 hs (nWordsG n oM _ _ hs.g) ?_)))
 rintro _ w10 h11 hs ⟨Aw1,cw1,rfl,hcw1,hw1⟩
 replace hs:=(hs.a_SlO hw1)
 refine lL hs [.m 5 14] (lN (CG.seq (cSL (lL hs [.m 15 3,.v 16 (.int .i64 0)] (lN (CG.block (cTo [(2,.slice none 0 0),(3,.int .i64 (((nb n)+7)/8:Nat)),(4,.slice (some ⟨b6,0,none⟩) (((nb n)+7)/8:Nat) (((nb n)+7)/8:Nat)),(5,.slice Aw1 ((wds n).length) cw1),(15,.int .i64 (((nb n)+7)/8:Nat)),(16,.int .i64 0)] ?_)))))))
 refine CG.loop (fun μ_ Γ w_=>∃ (i:Nat) (l:List Nat) (h_:Hp),μ_=((nb n+7)/8)-i∧Γ=[(2,.slice none 0 0),(3,.int .i64 (((nb n)+7)/8:Nat)),(4,.slice (some ⟨b6,0,none⟩) (((nb n)+7)/8:Nat) (((nb n)+7)/8:Nat)),(5,.slice Aw1 ((wds n).length) cw1),(15,.int .i64 (((nb n)+7)/8:Nat)),(16,.int .i64 (i:Nat))]∧SS w h w_ h_ [⟨b6,5,(l).flatMap u8c⟩,⟨b1,52,nc n⟩] [] [fun h_=>SlO 1 u64c 0 h_ Aw1 (wds n)]∧(i≤((nb n+7)/8))∧(l.length=((nb n+7)/8))∧(∀ j,j<i→l.getD (((nb n+7)/8)-1-j) 0=n/256^j%256)) _ ⟨0,List.replicate (((nb n)+7)/8:Nat) 0,h11,rfl,rfl,hs.to _ _,Nat.zero_le _,hl9,(fun j hj=>absurd hj oM)⟩ ?_
 rintro _ _ w12 ⟨i,l,h13,hm14,rfl,hs,hi,hll,hg⟩
 have hwi:=wds_get n (i/8)
 refine cSL ?_
 cases hb15:(decide (((i:Nat):Int)<((((nb n)+7)/8:Nat):Int)))
 ·
  have phb15:=oF hb15
  refine lB 17 hb15 ?_
  refine lN (CG.seq (cIF (CG.exit ?_)))
  show CG _ _ _ _ _ _ _ _
  refine cSL (lL hs [.m 36 4,.m 2 36] (lN (CG.ret ?_)))
  have him:i=((nb n+7)/8):=by omega
  have hlb:l=byt n ((nb n+7)/8):=eq_byt hll (fun j hj=>hg j oM)
  rw[hlb] at hs
  obtain ⟨h16,hs,sg17,lo18,bc19⟩:=hs.pub 0
  replace hs:=(hs.to [⟨b1,52,nc n⟩] []).a_SlO (SlO.of_flat (sz:=1) (f:=u8c) (d:=0) (b:=b6) (o:=0) (l:=byt n ((nb n+7)/8)) (fun _=>rfl) sg17)
  exact hs.ret [] (.slice (some ⟨b6,0,none⟩) (((nb n)+7)/8:Nat) (((nb n)+7)/8:Nat)) (⟨some ⟨b6,0,none⟩,rfl,(hs.f.1)⟩)
 have phb15:=oT hb15
 refine lB 17 hb15 ?_
 refine lN (CG.seq (cIT (CG.skipN (CG.seq (CG.block (cSL (lL hs [.m 18 16,.m 6 18] (lN (CG.listed (lL hs [.m 19 4,.m 20 3] (lIn 21 ((((nb n)+7)/8:Nat)-1) ((((nb n)+7)/8:Nat)-1) ?_)))))))))))
 refine lL hs [.m 22 6] (lIn 23 (((((nb n)+7)/8:Nat)-1:Nat)-(i:Nat)) (((((nb n)+7)/8:Nat)-1:Nat)-i) ?_)
 refine lL hs [.m 24 5,.m 25 6] (lV 26 (.int .i64 (i/8:Nat)) ?_ (hr:=rint (opQuo (t:=3) (u:=3) (x:=.tmp 25) (y:=.const (.int .i64 8)) (k:=.i64) (a:=((i:Nat):Int)) (b:=(8:Int)) kR kR kR oM _) (quoI64 i 8 oM)))
 refine lX 27 Aw1 ((wds n).length) cw1 1 (i/8:Nat) (i/8) ((hs.f.1).ok oM) ?_
 refine lH 28 (.int .u64 ((wds n).getD (i/8) 0:Nat)) hs ((hs.f.1).el (i/8) oM) ?_
 refine lL hs [.m 29 6] (lV 30 (.int .i64 (i%8:Nat)) ?_ (hr:=rint (opRem (t:=3) (u:=3) (x:=.tmp 29) (y:=.const (.int .i64 8)) (k:=.i64) (a:=((i:Nat):Int)) (b:=(8:Int)) kR kR kR oM _) (tmodNat i 8)))
 refine lIn 31 (8*(i%8:Nat)) (8*(i%8)) ?_
 refine lV 32 (.int .u64 (((wds n).getD (i/8) 0)/2^(8*(i%8)):Nat)) ?_ (hr:=opShrN (t:=50) (u:=3) (x:=.tmp 28) (y:=.tmp 31) (ky:=.i64) (a:=((wds n).getD (i/8) 0)) (n:=(8*(i%8))) kR kR kR oM _)
 refine lV 33 (.int .u8 ((wds n).getD (i/8) 0/2^(8*(i%8))%256:Nat)) ?_ (hr:=rint (n:=IntKind.wrap .u8 (((wds n).getD (i/8) 0/2^(8*(i%8)):Nat):Int)) kR (wrU8 _))
 refine lX 34 (some ⟨b6,0,none⟩) (((nb n)+7)/8:Nat) (((nb n)+7)/8:Nat) 1 (((((nb n)+7)/8:Nat)-1:Nat)-i:Nat) (((((nb n)+7)/8:Nat)-1:Nat)-i:Nat) rfl ?_
 refine lW 0 l u8c 1 (((((nb n)+7)/8:Nat)-1:Nat)-i:Nat) ((wds n).getD (i/8) 0/2^(8*(i%8))%256:Nat) hs oM (fun w21 hs=>?_)
 have hl22:((l).set (((((nb n)+7)/8:Nat)-1:Nat)-i:Nat) ((wds n).getD (i/8) 0/2^(8*(i%8))%256:Nat)).length=(((nb n)+7)/8:Nat):=by rw[List.length_set];exact hll
 replace hs:=hs.to [⟨b6,5,((l).set (((((nb n)+7)/8:Nat)-1:Nat)-i:Nat) ((wds n).getD (i/8) 0/2^(8*(i%8))%256:Nat)).flatMap u8c⟩,⟨b1,52,nc n⟩] []
 refine lN (CG.listed (lIn 35 ((i:Nat)+1) (i+1) ?_))
 refine lL hs [.m 16 35] (lD ?_)
 intro a_ ka
 have q23:(i+1)≤((nb n+7)/8):=by omega
 have q24:((l).set (((((nb n)+7)/8:Nat)-1:Nat)-i:Nat) ((wds n).getD (i/8) 0/2^(8*(i%8))%256:Nat)).length=((nb n+7)/8):=hl22
 have q25:∀ j,j<(i+1)→((l).set (((((nb n)+7)/8:Nat)-1:Nat)-i:Nat) ((wds n).getD (i/8) 0/2^(8*(i%8))%256:Nat)).getD (((nb n+7)/8)-1-j) 0=n/256^j%256:=(set_from_top hll oM hg (byte_wds n i))
 refine ⟨_,_,?_,⟨i+1,(l).set (((((nb n)+7)/8:Nat)-1:Nat)-i:Nat) ((wds n).getD (i/8) 0/2^(8*(i%8))%256:Nat),h13,rfl,rfl,hs.to _ _,q23,q24,q25⟩,ka.to [(2,.slice none 0 0),(3,.int .i64 (((nb n)+7)/8:Nat)),(4,.slice (some ⟨b6,0,none⟩) (((nb n)+7)/8:Nat) (((nb n)+7)/8:Nat)),(5,.slice Aw1 ((wds n).length) cw1),(15,.int .i64 (((nb n)+7)/8:Nat)),(16,.int .i64 ((i+1):Nat))] kR⟩
 omega
theorem nFromB (n m:Nat)(A:Option Addr)(c:Nat)(hc:m≤c)(hm:m≤10000000000)(hn:n<256^m)(w:World)(h:Hp)(g:G w h)(hA:SlO 1 u8c 0 h A (byt n m)) :
    Calls Tryz.prog 114 #[.slice A m c] w (Ret w h fun v _=>v=nv n):=by
 have hs:=SS.start g
 replace hs:=(hs.a_SlO hA)
 have hbl:=byt_len n m
 refine go Tryz.func114 [(0,.slice A m c)] rfl ?_
 refine cSL (lA 2 52 ([.int .u64 0,.string ⟨#[]⟩]) hs (fun b1 w2 h3 hs=>?_))
 refine lNS (lL hs [.m 5 0,.v 6 (.int .i64 (m:Nat))] (lIn 7 ((m:Nat)+7) (m+7) ?_))
 refine lV 8 (.int .i64 ((m+7)/8:Nat)) ?_ (hr:=rint (opQuo (t:=3) (u:=3) (x:=.tmp 7) (y:=.const (.int .i64 8)) (k:=.i64) (a:=((m+7:Nat):Int)) (b:=(8:Int)) kR kR kR oM _) (quoI64 (m+7) 8 oM))
 refine lK 9 50 ((m+7)/8) 1 8 (.int .u64 0) u64c 0 hs (fun b4 w5 h6 hs=>?_)
 have hl7:(List.replicate ((m+7)/8) 0).length=((m+7)/8):=by simp
 refine lL hs [.m 3 9] (lN (CG.seq (cSL (lL hs [.m 10 0,.v 11 (.int .i64 (m:Nat)),.v 12 (.int .i64 0)] (lN (CG.block (cTo [(0,.slice A m c),(2,.pointer (some ⟨b1,0,none⟩)),(3,.slice (some ⟨b4,0,none⟩) ((m+7)/8) ((m+7)/8)),(11,.int .i64 (m:Nat)),(12,.int .i64 0)] ?_)))))))
 refine CG.loop (fun μ_ Γ w_=>∃ (i:Nat) (l:List Nat) (h_:Hp),μ_=m-i∧Γ=[(0,.slice A m c),(2,.pointer (some ⟨b1,0,none⟩)),(3,.slice (some ⟨b4,0,none⟩) ((m+7)/8) ((m+7)/8)),(11,.int .i64 (m:Nat)),(12,.int .i64 (i:Nat))]∧SS w h w_ h_ [⟨b4,50,(l).flatMap u64c⟩,⟨b1,52,[.int .u64 0,.string ⟨#[]⟩]⟩] [] [fun h_=>SlO 1 u8c 0 h_ A (byt n m)]∧(i≤m)∧(l.length=(m+7)/8)∧(Wd l)∧(wval l=n%256^i)) _ ⟨0,List.replicate ((m+7)/8) 0,h6,rfl,rfl,hs.to _ _,Nat.zero_le _,hl7,Wd.rep _,(by show bval _ _=_;rw[bval_rep,Nat.pow_zero,Nat.mod_one])⟩ ?_
 rintro _ _ w8 ⟨i,l,h9,hm10,rfl,hs,hi,hll,hW,inv⟩
 have hbi:=byt_getD_lt n m (m-1-i)
 refine cSL ?_
 cases hb11:(decide (((i:Nat):Int)<((m:Nat):Int)))
 ·
  have phb11:=oF hb11
  refine lB 13 hb11 ?_
  refine lN (CG.seq (cIF (CG.exit ?_)))
  show CG _ _ _ _ _ _ _ _
  refine cSL ?_
  have him:i=m:=by omega
  have hE:wval l=n:=by rw[inv,him];exact Nat.mod_eq_of_lt hn
  obtain ⟨h12,hs,sg13,lo14,bc15⟩:=hs.pub 0
  replace hs:=(hs.to [⟨b1,52,[.int .u64 0,.string ⟨#[]⟩]⟩] []).a_SlO (SlO.of_flat (sz:=1) (f:=u64c) (d:=0) (b:=b4) (o:=0) (l:=l) (fun _=>rfl) sg13)
  refine lL hs [.m 36 3] (lC 37 hs (nFromE (some ⟨b4,0,none⟩) ((m+7)/8) (l) ((m+7)/8) (n) (by first|rfl|assumption|(simp;done)|(simp;omega)|omega) (hW) (hE) sM sM _ _ hs.g (hs.f.1)) ?_)
  rintro _ w17 h18 hs rfl
  refine lP 0 0 (nc n) hs (fun w19 hs=>?_)
  exact lN (CG.ret (hs.ret [(0,0,2)] (nv n) rfl))
 have phb11:=oT hb11
 refine lB 13 hb11 ?_
 refine lN (CG.seq (cIT (CG.skipN (CG.seq (CG.block (cSL (lL hs [.m 14 12,.m 4 14] (lN (cR 19 [] mixed hs al_nil ?_)))))))))
 refine eV 0 15 (.slice (some ⟨b4,0,none⟩) ((m+7)/8) ((m+7)/8)) ?_
 refine eV 1 16 (.int .i64 (i:Nat)) ?_
 refine eV 2 17 (.int .i64 (i/8:Nat)) ?_ (hv:=fun _=>rint (opQuo (t:=3) (u:=3) (x:=.tmp 16) (y:=.const (.int .i64 8)) (k:=.i64) (a:=((i:Nat):Int)) (b:=(8:Int)) kR kR kR oM _) (quoI64 i 8 oM))
 refine eX 3 18 (some ⟨b4,0,none⟩) ((m+7)/8) ((m+7)/8) 1 (i/8:Nat) (i/8) rfl ?_
 refine eQ 4 19 0 l u64c 1 0 (i/8) (.int .u64 ((l).getD (i/8) 0:Nat)) hs oM ?_
 refine eV 5 20 (.slice A m c) ?_
 refine eV 6 21 (.slice A m c) ?_
 refine eV 7 22 (.int .i64 (m:Nat)) ?_
 refine eIn 8 23 ((m:Nat)-1) (m-1) ?_
 refine eV 9 24 (.int .i64 (i:Nat)) ?_
 refine eIn 10 25 ((m-1:Nat)-(i:Nat)) ((m-1)-i) ?_
 refine eX 11 26 A m c 1 ((m-1)-i:Nat) ((m-1)-i) ((hs.f.1).ok oM) ?_
 refine eH 12 27 (.int .u8 ((byt n m).getD ((m-1)-i) 0:Nat)) hs ((hs.f.1).el ((m-1)-i) oM) ?_
 refine eV 13 28 (.int .u64 ((byt n m).getD ((m-1)-i) 0:Nat)) ?_ (hv:=fun _=>rint (n:=IntKind.wrap .u64 (((byt n m).getD ((m-1)-i) 0:Nat):Int)) kR (fitU64 oM oM))
 refine eV 14 29 (.int .i64 (i:Nat)) ?_
 refine eV 15 30 (.int .i64 (i%8:Nat)) ?_ (hv:=fun _=>rint (opRem (t:=3) (u:=3) (x:=.tmp 29) (y:=.const (.int .i64 8)) (k:=.i64) (a:=((i:Nat):Int)) (b:=(8:Int)) kR kR kR oM _) (tmodNat i 8))
 refine eIn 16 31 (8*(i%8:Nat)) (8*(i%8)) ?_
 refine eV 17 32 (.int .u64 (((byt n m).getD ((m-1)-i) 0:Nat)*2^(8*(i%8))%18446744073709551616:Nat)) ?_ (hv:=fun _=>opShlN (t:=50) (u:=3) (x:=.tmp 28) (y:=.tmp 31) (ky:=.i64) (a:=((byt n m).getD ((m-1)-i) 0:Nat)) (n:=(8*(i%8))) kR kR kR _)
 obtain ⟨hS1,hS2,hS3⟩:=fb_step oM inv (show (byt n m).getD (m-1-i) 0=n/256^i%256 by rw[byt_get n m _ oM,show m-1-(m-1-i)=i by omega])
 have hlg:=hW.get (i/8)
 refine eV 18 33 (.int .u64 (l.getD (i/8) 0+(byt n m).getD (m-1-i) 0*2^(8*(i%8)):Nat)) ?_ (hv:=fun _=>rint (opOr (t:=50) (u:=50) (x:=.tmp 19) (y:=.tmp 32) (a:=((l).getD (i/8) 0)) (b:=(((byt n m).getD ((m-1)-i) 0:Nat)*2^(8*(i%8))%18446744073709551616:Nat)) kR kR kR oM oM _) (by rw[hS1]))
 refine eD0 hs (fun w20 h21 hs=>?_)
 refine tX 19 34 (some ⟨b4,0,none⟩) ((m+7)/8) ((m+7)/8) 1 (i/8:Nat) (i/8) rfl ?_
 refine tW 20 0 l u64c 1 (i/8) (l.getD (i/8) 0+(byt n m).getD (m-1-i) 0*2^(8*(i%8)):Nat) hs oM (fun w22 hs=>?_)
 have hl23:((l).set (i/8) (l.getD (i/8) 0+(byt n m).getD (m-1-i) 0*2^(8*(i%8)):Nat)).length=((m+7)/8):=by rw[List.length_set];exact hll
 replace hs:=hs.to [⟨b4,50,((l).set (i/8) (l.getD (i/8) 0+(byt n m).getD (m-1-i) 0*2^(8*(i%8)):Nat)).flatMap u64c⟩,⟨b1,52,[.int .u64 0,.string ⟨#[]⟩]⟩] []
 refine tN (CG.listed (lIn 35 ((i:Nat)+1) (i+1) ?_))
 refine lL hs [.m 12 35] (lD ?_)
 intro a_ ka
 have q24:(i+1)≤m:=by omega
 have q25:((l).set (i/8) (l.getD (i/8) 0+(byt n m).getD (m-1-i) 0*2^(8*(i%8)):Nat)).length=(m+7)/8:=hl23
 have q26:Wd ((l).set (i/8) (l.getD (i/8) 0+(byt n m).getD (m-1-i) 0*2^(8*(i%8)):Nat)):=hW.set _ hS2
 have q27:wval ((l).set (i/8) (l.getD (i/8) 0+(byt n m).getD (m-1-i) 0*2^(8*(i%8)):Nat))=n%256^(i+1):=hS3
 refine ⟨_,_,?_,⟨i+1,(l).set (i/8) (l.getD (i/8) 0+(byt n m).getD (m-1-i) 0*2^(8*(i%8)):Nat),h21,rfl,rfl,hs.to _ _,q24,q25,q26,q27⟩,ka.to [(0,.slice A m c),(2,.pointer (some ⟨b1,0,none⟩)),(3,.slice (some ⟨b4,0,none⟩) ((m+7)/8) ((m+7)/8)),(11,.int .i64 (m:Nat)),(12,.int .i64 ((i+1):Nat))] kR⟩
 omega
theorem nShift (n k:Nat)(hl:(wds n).length≤1000000000)(hk:k≤65536)(w:World)(h:Hp)(g:G w h) :
    Calls Tryz.prog 137 #[nv n,.int .i64 (k:Nat)] w (Ret w h fun v _=>v=nv (n*2^k)):=by
 have hs:=SS.start g
 refine go Tryz.func137 [(0,nv n),(1,.int .i64 (k:Nat))] rfl ?_
 refine cSL (lA 2 52 (nc n) hs (fun b1 w2 h3 hs=>?_))
 refine lA 4 52 ([.int .u64 0,.string ⟨#[]⟩]) hs (fun b4 w5 h6 hs=>?_)
 refine lNS (lL hs [.m 5 1] (lV 6 (.int .i64 (k:Nat)) ?_ (hr:=rint (n:=if (65536:Int)<((k:Nat):Int) then (65536:Int) else ((k:Nat):Int)) kR (if_neg oM))))
 refine lV 7 (.int .i64 (k:Nat)) ?_ (hr:=rint (n:=if ((k:Nat):Int)>(-65536:Int) then ((k:Nat):Int) else (-65536:Int)) kR (if_pos oM))
 refine lL hs [.m 1 7] (lN (CG.seq (cSL (lL hs [.m 8 1] ?_))))
 have ⟨hb7,phb7⟩:=dF (p:=((k:Nat):Int)<(0:Int)) oM
 refine lB 9 hb7 ?_
 refine lN (cIF (CG.skipN (cSL (lL hs [.o 16 (nv n) 1 0 2] (lC 17 hs (nWordsG n oM _ _ hs.g) ?_)))))
 rintro _ w8 h9 hs ⟨Aw1,cw1,rfl,hcw1,hw1⟩
 replace hs:=(hs.a_SlO hw1)
 refine lL hs [.m 18 1] (lC 19 hs (nShUp Aw1 cw1 (wds n) (Wd.wds n) hl k oM _ _ hs.g (hs.f.1)) ?_)
 rintro _ w10 h11 hs ⟨Az,cz,z,rfl,hcz,hlz,hWz,hVz,hz⟩
 replace hs:=(hs.a_SlO hz)
 refine lC 20 hs (nFromE Az cz (z) z.length ((n*2^k)) (by first|rfl|assumption|(simp;done)|(simp;omega)|omega) (hWz) (by rw[hVz,wval_wds]) sM sM _ _ hs.g (hs.f.1)) ?_
 rintro _ w12 h13 hs rfl
 refine lP 0 0 (nc (n*2^k)) hs (fun w14 hs=>?_)
 exact lN (CG.ret (hs.ret [(0,0,2)] (nv (n*2^k)) rfl))
section
variable {P:Program} {Γ:Env} {o:Oper}
theorem ixArr {t e:TypeId}{x ix:Operand}{b off sz len:Nat}{i:Int}{kk:IntKind}(k:Nat)(ho:o.op=.indexAddr t x ix)(hx:ev Γ x=.pointer (some ⟨b,off,none⟩))(hi:ev Γ ix=.int kk i)
    (hu:P.underlying t=some (.array len e))(hs:(P.info? e).map (·.size)=some sz)(hk:i=k)(hlt:k<len)(w:World) :
    (execOp (ev Γ) o).run P w=.ok (.value (.pointer (some ⟨b,off+k*sz,none⟩))) w:=by
  subst hk
  unfold execOp
  simp only[ho]
  rw[hx,hi]
  have hel:P.elem t=e:=by unfold Program.elem;rw[hu]
  have hln:P.arrayLen t=len:=by unfold Program.arrayLen;rw[hu]
  have h1:=run_indexAt_array (P:=P) w t ⟨b,off,none⟩ kk (k:Int) (by rw[hel,hln];exact hu)
  rw[hln,if_pos ⟨by omega,by omega⟩,hel] at h1
  have h2:(sizeOf e).run P w=.ok sz w:=by
    cases hi2:P.info? e with
    | none=>rw[hi2] at hs;cases hs
    | some i =>
      rw[hi2] at hs
      simp at hs
      simp[sizeOf,typeInfo,hi2,hs]
  rw[h2] at h1
  simp[h1,Result.andThen,Addr.add]
end
def Tz (n k m:Nat):Prop:=n=2^k*m∧m%2=1
theorem ctz_Tz {x:Nat}(h0:x≠0)(h:x<18446744073709551616):∃ m,Tz x (Lib.ctz 64 x) m∧Lib.ctz 64 x<64:=by
  unfold Lib.ctz
  rw[if_neg h0]
  obtain ⟨m,e,hl⟩:=Lib.ctzFrom_spec 64 x oM h
  exact ⟨2*m+1,⟨e,by omega⟩,hl⟩
theorem Tz.odd_pos {n k m:Nat}(h:Tz n k m):0<m:=by have:=h.2;omega
theorem Tz.word {n i x k m r:Nat}(e:n=18446744073709551616^i*(x+18446744073709551616*r))(t:Tz x k m)(hk:k<64):Tz n (64*i+k) (m+2^(64-k)*r):=by
  obtain ⟨t1,t2⟩:=t
  refine ⟨?_,?_⟩
  · have e64:(18446744073709551616:Nat)=2^k*2^(64-k):=by rw[←Nat.pow_add,show k+(64-k)=64 by omega]
    have e1:(18446744073709551616:Nat)^i=2^(64*i):=by rw[Nat.pow_mul]
    rw[e,e1,t1]
    conv=>lhs;rw[e64]
    rw[Nat.pow_add,Nat.mul_assoc (2^k),←Nat.mul_add,←Nat.mul_assoc]
  · obtain ⟨j,hj⟩:∃ j,64-k=j+1:=⟨63-k,by omega⟩
    rw[hj,Nat.pow_succ,Nat.mul_comm (2^j) 2,Nat.mul_assoc]
    omega
theorem Tz.uniq {n k m k' m':Nat}(a:Tz n k m)(b:Tz n k' m'):k=k'∧m=m':=by
  obtain ⟨a1,a2⟩:=a
  obtain ⟨b1,b2⟩:=b
  have key:∀ {k m k' m':Nat},2^k*m=2^k'*m'→m%2=1→k'≤k:=fun {k m k' m'} e hm'=>by
    rcases Nat.lt_or_ge k k' with h|h
    · exfalso
      obtain ⟨d,rfl⟩:∃ d,k'=k+(d+1):=⟨k'-k-1,by omega⟩
      rw[Nat.pow_add,Nat.mul_assoc] at e
      have e2:=Nat.eq_of_mul_eq_mul_left (Nat.two_pow_pos k) e
      rw[Nat.pow_succ,Nat.mul_comm (2^d) 2,Nat.mul_assoc] at e2
      omega
    · exact h
  have h1:=key (a1.symm.trans b1) a2
  have h2:=key (b1.symm.trans a1) b2
  have h3:k=k':=by omega
  subst h3
  exact ⟨rfl,Nat.eq_of_mul_eq_mul_left (Nat.two_pow_pos k) (a1.symm.trans b1)⟩
theorem gcd_two_left {x y:Nat}(hy:y%2=1):Nat.gcd (2*x) y=Nat.gcd x y:=by
  have hc:Nat.Coprime 2 y:=by
    unfold Nat.Coprime
    rw[Nat.gcd_rec,hy];rfl
  exact hc.gcd_mul_left_cancel x
theorem gcd_pow_left {x y:Nat}(hy:y%2=1):∀ k,Nat.gcd (2^k*x) y=Nat.gcd x y
  | 0=>by simp
  | k+1=>by
    rw[Nat.pow_succ,Nat.mul_comm (2^k) 2,Nat.mul_assoc,gcd_two_left hy]
    exact gcd_pow_left hy k
theorem gcd_twos {x y k l m n:Nat}(a:Tz x k m)(b:Tz y l n):Nat.gcd x y=Nat.gcd m n*2^min k l:=by
  obtain ⟨a1,a2⟩:=a
  obtain ⟨b1,b2⟩:=b
  subst a1 b1
  rcases Nat.le_total k l with h|h
  · rw[Nat.min_eq_left h]
    obtain ⟨d,rfl⟩:∃ d,l=k+d:=⟨l-k,by omega⟩
    rw[Nat.pow_add,Nat.mul_assoc,Nat.gcd_mul_left,Nat.gcd_comm m,gcd_pow_left a2,Nat.gcd_comm n,Nat.mul_comm]
  · rw[Nat.min_eq_right h]
    obtain ⟨d,rfl⟩:∃ d,k=l+d:=⟨k-l,by omega⟩
    rw[Nat.pow_add,Nat.mul_assoc,Nat.gcd_mul_left,gcd_pow_left b2,Nat.mul_comm]
theorem gcd_sub {x y k m:Nat}(hxy:y<x)(hy:y%2=1)(t:Tz (x-y) k m):Nat.gcd m y=Nat.gcd x y:=by
  rw[←gcd_pow_left hy k,←t.1]
  have e:=Nat.gcd_add_self_left (m:=y) (n:=x-y)
  rw[show x-y+y=x by omega] at e
  exact e.symm
theorem SlO.win {α:Type}{f:α→List Value}{d:α}{h:Hp}{b:Nat}{l:List α}(hf:∀ x,(f x).length=1)(sg:Seg h b 0 (l.flatMap f))(o n:Nat):SlO 1 f d h (some ⟨b,o,none⟩) ((l.drop o).take n):=by
  have hp:=sg.part o ((l.drop o).take n).length
  rw[Nat.zero_add] at hp
  have e:∀ (l:List α) (o n:Nat),((l.flatMap f).drop o).take ((l.drop o).take n).length=((l.drop o).take n).flatMap f:=by
    have e1:∀ (l:List α),(l.flatMap f).length=l.length:=fun l=>by
      induction l with
      | nil=>rfl
      | cons x l ih=>rw[List.flatMap_cons,List.length_append,hf,ih,List.length_cons];omega
    have ed:∀ (l:List α) (o:Nat),(l.flatMap f).drop o=(l.drop o).flatMap f:=fun l=>by
      induction l with
      | nil=>intro o;simp
      | cons x l ih =>
        intro o
        cases o with
        | zero=>rfl
        | succ o =>
          rw[List.flatMap_cons,List.drop_append,hf,List.drop_eq_nil_of_le (by rw[hf];omega),List.nil_append,List.drop_succ_cons,Nat.add_sub_cancel];exact ih o
    have et:∀ (l:List α) (n:Nat),(l.flatMap f).take n=(l.take n).flatMap f:=fun l=>by
      induction l with
      | nil=>intro n;simp
      | cons x l ih =>
        intro n
        cases n with
        | zero=>rfl
        | succ n =>
          rw[List.flatMap_cons,List.take_append,hf,List.take_of_length_le (by rw[hf];omega),List.take_succ_cons,List.flatMap_cons,Nat.add_sub_cancel,ih n]
    intro l o n
    rw[ed,et,List.length_take]
    congr 1
    rcases Nat.le_total n (l.drop o).length with h|h
    · rw[Nat.min_eq_left h]
    · rw[Nat.min_eq_right h,List.take_length,List.take_of_length_le h]
  rw[e] at hp
  exact SlO.of_flat hf hp
def Tab (h:Hp):Prop:=Seg h 2 0 (Lib.deBruijn64tab.map fun k=>Value.int .u8 ((k:Nat):Int))
theorem Tab.gw {h h':Hp}(t:Tab h)(u:Gw h h'):Tab h':=Seg.gw t u
theorem Tab.at {h:Hp}(t:Tab h){k i:Nat}(e:i<64∧Lib.deBruijn64tab.getD i 0=k):Seg h 2 i [.int .u8 ((k:Nat):Int)]:=by
  have hp:=Seg.part t i 1
  obtain ⟨hi,rfl⟩:=e
  rw[Nat.zero_add] at hp
  have hl:i<Lib.deBruijn64tab.length:=by show i<64;exact hi
  have e1:((Lib.deBruijn64tab.map fun k=>Value.int .u8 ((k:Nat):Int)).drop i).take 1=[.int .u8 ((Lib.deBruijn64tab.getD i 0:Nat):Int)]:=by
    rw[List.drop_eq_getElem_cons (by simpa using hl)]
    simp[hl]
  rw[e1] at hp
  exact hp
theorem ptrE {s:Result Next}{b z:Nat}{w:World}(h:s=.ok (.value (.pointer (some ⟨b,0+z*1,none⟩))) w):s=.ok (.value (.pointer (some ⟨b,z,none⟩))) w:=by rw[h,Nat.mul_one,Nat.zero_add]
theorem wds_full {l:List Nat}(hW:Wd l)(hl:l.length≤(wds (wval l)).length):wds (wval l)=l:=by
  have e:=wds_of hW
  have h1:(wds (wval l)).length=min (tl l l.length) l.length:=by rw[e,List.length_take]
  have h2:=tl_le l l.length
  rw[e,List.take_of_length_le oM]
theorem w256 {l:List Nat}(hW:Wd l):wval l<256^(8*l.length):=by
  have:=bval_lt hW
  rw[Nat.pow_mul];exact this
theorem wds_eq {a b:Nat}(h:wds a=wds b):a=b:=by rw[←wval_wds a,←wval_wds b,h]
theorem row_zero {l:List Nat}{i:Nat}(h:i<l.length)(h0:l.getD i 0=0){n:Nat}(inv:n=18446744073709551616^i*bval 18446744073709551616 (l.drop i)):n=18446744073709551616^(i+1)*bval 18446744073709551616 (l.drop (i+1)):=by
  rw[inv,bval_drop _ h,h0,Nat.zero_add,Nat.pow_succ,Nat.mul_assoc]
theorem bTz64 (x:Nat)(hx0:x≠0)(hx:x<18446744073709551616)(w:World)(h:Hp)(g:G w h)(tb:Tab h) :
    Calls Tryz.prog 155 #[.int .u64 (x:Nat)] w (Ret w h fun v _=>v=.int .i64 (Lib.ctz 64 x:Nat)):=by
 have hs:=SS.start g
 replace hs:=(hs.add (K:=fun h_=>Tab h_) tb)
 obtain ⟨hlow,hk⟩:=Lib.lowest_bit 64 x hx0 hx
 have htz:=Lib.deBruijn64_at _ hk
 generalize Lib.ctz 64 x=k at *
 generalize hp:2^k=p at *
 obtain ⟨y,hy⟩:∃ y,p*285870213051353865%18446744073709551616=y:=⟨_,rfl⟩
 rw[hy] at htz
 obtain ⟨z,hz⟩:∃ z,y/288230376151711744=z:=⟨_,rfl⟩
 rw[hz] at htz
 refine go Tryz.func155 [(0,.int .u64 (x:Nat))] rfl ?_
 refine cSL (lL hs [.v 2 (.int .i64 0)] (lN (CG.seq (cSL (lL hs [.m 3 0] ?_)))))
 have hb1:(((x:Nat):Int) == (0:Int))=false:=beqF oM
 have phb1:=neOfBeq hb1
 refine lB 4 hb1 ?_
 refine lN (cIF (CG.skipN (cSL (lL hs [.m 5 0,.m 6 0] (lV 7 (.int .u64 (18446744073709551616-x:Nat)) ?_ (hr:=rint (n:=IntKind.wrap .u64 (0-((x:Nat):Int))) kR (by rw[IntKind.wrap_u64];omega)))))))
 refine lV 8 (.int .u64 (p:Nat)) ?_ (hr:=rint (n:=bits .and .u64 ((x:Nat):Int) ((18446744073709551616-x:Nat):Int)) kR (by rw[bits_and_u64_nat _ _ hx oM];exact congrArg _ hlow))
 refine lV 9 (.int .u64 (y:Nat)) ?_ (hr:=rint (n:=IntKind.wrap .u64 (((p:Nat):Int)*285870213051353865)) kR ((wMU64 p 285870213051353865).trans (congrArg _ hy)))
 refine lV 10 (.int .u64 (z:Nat)) ?_ (hr:=rint (opShrN (t:=50) (u:=160) (x:=.tmp 9) (y:=.const (.int .u64 58)) (ky:=.u64) (a:=y) (n:=58) kR kR kR oM _) (congrArg _ (by rw[show (2:Nat)^58=288230376151711744 from rfl];exact hz)))
 refine lV 11 (.pointer (some ⟨2,z,none⟩)) ?_ (hr:=ptrE (ixArr (t:=201) (e:=5) (x:=.global 2) (ix:=.tmp 10) (b:=2) (off:=0) (sz:=1) (len:=64) (kk:=.u64) (i:=((z:Nat):Int)) z kR kR kR kR kR rfl htz.1 _))
 refine lH 12 (.int .u8 ((k:Nat):Int)) hs (Tab.at hs.f.1 htz) ?_
 refine lV 13 (.int .i64 (k:Nat)) ?_ (hr:=rint (n:=IntKind.wrap .i64 ((k:Nat):Int)) kR (fitI64 oM oM))
 exact lL hs [.m 2 13] (lN (CG.ret (hs.ret [] (.int .i64 (k:Nat)) rfl)))
theorem wZeros (A:Option Addr)(c:Nat)(l:List Nat)(n:Nat)(hn:l.length=n)(hW:Wd l)(hp:0<wval l)(hl:l.length≤1000000000)(w:World)(h:Hp)(g:G w h)(tb:Tab h)(hA:SlO 1 u64c 0 h A l) :
    Calls Tryz.prog 132 #[.slice A n c] w (Ret w h fun v _=>∃ k m:Nat,v=.int .i64 (k:Nat)∧Tz (wval l) k m∧k/64<l.length):=by
 have hs:=SS.start g
 replace hs:=((hs.add (K:=fun h_=>Tab h_) tb).a_SlO hA)
 refine go Tryz.func132 [(0,.slice A n c)] rfl ?_
 refine cSL (lL hs [.v 2 (.int .i64 0)] (lNS (lL hs [.v 3 (.int .i64 0)] (lN (CG.seq (CG.block (cTo [(0,.slice A n c),(2,.int .i64 0),(3,.int .i64 0)] ?_)))))))
 refine CG.loop (fun μ_ Γ w_=>∃ (i:Nat) (h_:Hp),μ_=l.length-i∧Γ=[(0,.slice A n c),(2,.int .i64 0),(3,.int .i64 (i:Nat))]∧SS w h w_ h_ [] [] [fun h_=>SlO 1 u64c 0 h_ A l,fun h_=>Tab h_]∧(i≤l.length)∧(wval l=18446744073709551616^i*bval 18446744073709551616 (l.drop i))) _ ⟨0,h,rfl,rfl,hs.to _ _,Nat.zero_le _,(by show bval _ _=_;rw[Nat.pow_zero,Nat.one_mul,List.drop_zero])⟩ ?_
 rintro _ _ w1 ⟨i,h2,hm3,rfl,hs,hi,inv⟩
 have hil:i<l.length:=by rcases Nat.lt_or_ge i l.length with h_|h_;exact h_;rw[List.drop_eq_nil_of_le h_] at inv;simp[bval] at inv;omega
 refine CG.seq (cSL (lL hs [.m 4 0,.m 5 3] (lX 6 A n c 1 (i:Nat) i ((hs.f.1).ok oM) ?_)))
 refine lH 7 (.int .u64 (l.getD i 0:Nat)) hs ((hs.f.1).el i oM) ?_
 cases hb4:(((l.getD i 0:Nat):Int) == (0:Int))
 ·
  have phb4:=neOfBeq hb4
  refine lB 8 hb4 ?_
  refine lN (cIF (CG.exit ?_))
  show CG _ _ _ _ _ _ _ _
  refine cSL (lL hs [.m 11 3] (lI 12 (64*(i:Nat)) ?_))
  refine lL hs [.m 13 0,.m 14 3] (lX 15 A n c 1 (i:Nat) i ((hs.f.1).ok oM) ?_)
  refine lH 16 (.int .u64 (l.getD i 0:Nat)) hs ((hs.f.1).el i oM) ?_
  refine lC 17 hs (bTz64 (l.getD i 0) oM (hW.get i) _ _ hs.g (hs.f.2.1)) ?_
  rintro _ w5 h6 hs rfl
  obtain ⟨mz,htz,hz64⟩:=ctz_Tz (x:=l.getD i 0) oM (hW.get i)
  refine lI 18 ((64*(i:Nat))+(Lib.ctz 64 (l.getD i 0):Nat)) ?_
  exact lL hs [.m 2 18] (lN (CG.ret (hs.ret [] (.int .i64 ((64*(i:Nat))+(Lib.ctz 64 (l.getD i 0):Nat))) (⟨_,_,rfl,Tz.word (by rw[inv,bval_drop _ hil]) htz hz64,by omega⟩))))
 have phb4:=eq_of_beq hb4
 refine lB 8 hb4 ?_
 refine lN (cIT (CG.skipN (CG.block (CG.listed (lL hs [.m 9 3] (lIn 10 ((i:Nat)+1) (i+1) ?_))))))
 refine lL hs [.m 3 10] (lD ?_)
 intro a_ ka
 have q7:(i+1)≤l.length:=by omega
 have q8:wval l=18446744073709551616^(i+1)*bval 18446744073709551616 (l.drop (i+1)):=(row_zero hil oM inv)
 refine ⟨_,_,?_,⟨i+1,h2,rfl,rfl,hs.to _ _,q7,q8⟩,ka.to [(0,.slice A n c),(2,.int .i64 0),(3,.int .i64 ((i+1):Nat))] kR⟩
 omega
theorem wTrim (A:Option Addr)(c:Nat)(l:List Nat)(n:Nat)(hn:l.length=n)(hl:l.length≤1099511627776)(hc:l.length≤c)(w:World)(h:Hp)(g:G w h)(hA:SlO 1 u64c 0 h A l) :
    Calls Tryz.prog 156 #[.slice A n c] w (Ret w h fun v _=>v=.slice A (tl l n) c):=by
 have hs:=SS.start g
 replace hs:=(hs.a_SlO hA)
 refine go Tryz.func156 [(0,.slice A n c)] rfl ?_
 refine cSL (lL hs [.v 2 (.slice none 0 0)] (lN (CG.seq (CG.block (cTo [(2,.slice none 0 0),(0,.slice A n c)] ?_)))))
 refine CG.loop (fun μ_ Γ w_=>∃ (m:Nat) (h_:Hp),μ_=m∧Γ=[(2,.slice none 0 0),(0,.slice A m c)]∧SS w h w_ h_ [] [] [fun h_=>SlO 1 u64c 0 h_ A l]∧(m≤n)∧(tl l n=tl l m)) _ ⟨n,h,rfl,rfl,hs.to _ _,Nat.le_refl _,rfl⟩ ?_
 rintro _ _ w1 ⟨m,h2,hm3,rfl,hs,hm,ht⟩
 refine CG.seq (cSL (lL hs [.m 3 0,.v 4 (.int .i64 (m:Nat))] ?_))
 cases hb4:(decide ((0:Int)<((m:Nat):Int)))
 ·
  have phb4:=oF hb4
  refine lB 5 hb4 ?_
  refine lL hs [.m 6 5] (lG 7 ?_)
  refine lG 8 ?_
  refine lG 9 ?_
  refine lG 10 ?_
  refine lG 11 ?_
  refine lG 12 ?_
  refine lG 13 ?_
  refine lL hs [.v 14 (.bool false)] (lN (cIF (CG.exit ?_)))
  show CG _ _ _ _ _ _ _ _
  exact cSL (lL hs [.m 20 0,.m 2 20] (lN (CG.ret (hs.ret [] (.slice A m c) (by rw[ht,tl_at oM])))))
 have phb4:=oT hb4
 refine lB 5 hb4 ?_
 refine lL hs [.m 6 5,.m 7 0,.m 8 0,.v 9 (.int .i64 (m:Nat))] (lIn 10 ((m:Nat)-1) (m-1) ?_)
 refine lX 11 A m c 1 (m-1:Nat) (m-1) ((hs.f.1).ok oM) ?_
 refine lH 12 (.int .u64 (l.getD (m-1) 0:Nat)) hs ((hs.f.1).el (m-1) oM) ?_
 cases hb5:(((l.getD (m-1) 0:Nat):Int) == (0:Int))
 ·
  have phb5:=neOfBeq hb5
  refine lB 13 hb5 ?_
  refine lL hs [.v 14 (.bool false)] (lN (cIF (CG.exit ?_)))
  show CG _ _ _ _ _ _ _ _
  exact cSL (lL hs [.m 20 0,.m 2 20] (lN (CG.ret (hs.ret [] (.slice A m c) (by rw[ht,tl_at oM])))))
 have phb5:=eq_of_beq hb5
 refine lB 13 hb5 ?_
 refine lL hs [.v 14 (.bool true)] (lN (cIT (CG.skipN (CG.block (CG.listed (lL hs [.m 15 0,.m 16 0,.v 17 (.int .i64 (m:Nat))] (lIn 18 ((m:Nat)-1) (m-1) ?_)))))))
 refine lT 19 A m c 1 (m-1:Nat) (m-1) ?_
 refine lL hs [.m 0 19] (lD ?_)
 intro a_ ka
 have q6:(m-1)≤n:=by omega
 have q7:tl l n=tl l (m-1):=by rw[ht];exact tl_dec oM oM
 refine ⟨_,_,?_,⟨m-1,h2,rfl,rfl,hs.to _ _,q6,q7⟩,ka.to [(2,.slice none 0 0),(0,.slice A (m-1) c)] kR⟩
 omega
theorem wCompare (A:Option Addr)(c:Nat)(D:Option Addr)(d:Nat)(x y n m_:Nat)(hn:(wds x).length=n)(hm_:(wds y).length=m_)(hlx:(wds x).length≤1000000000)(hly:(wds y).length≤1000000000)(w:World)(h:Hp)(g:G w h)(hA:SlO 1 u64c 0 h A (wds x))(hD:SlO 1 u64c 0 h D (wds y)) :
    Calls Tryz.prog 134 #[.slice A n c,.slice D m_ d] w (Ret w h fun v _=>v=.int .i64 (cmpN x y)):=by
 have hs:=SS.start g
 replace hs:=((hs.a_SlO hA).a_SlO hD)
 refine go Tryz.func134 [(0,.slice A n c),(1,.slice D m_ d)] rfl ?_
 refine cSL (lL hs [.v 4 (.int .i64 0)] (lN (CG.seq (cSL (lL hs [.m 6 0,.v 7 (.int .i64 (n:Nat)),.m 8 1,.v 9 (.int .i64 (m_:Nat))] ?_)))))
 cases hb1:(((n:Nat):Int) != ((m_:Nat):Int))
 ·
  have phb1:=eqOfBne hb1
  refine lB 10 hb1 ?_
  refine lN (cIF (CG.skipN (CG.seq (cSL (lL hs [.m 16 0,.v 17 (.int .i64 (n:Nat))] (lV 18 (.int .i64 (((n:Nat):Int)-1)) ?_ (hr:=rint (n:=IntKind.wrap .i64 ((n:Nat)-1)) kR ((wr64 oM oM).trans oM))))))))
  refine lL hs [.m 5 18] (lN (CG.block (cTo [(0,.slice A n c),(1,.slice D m_ d),(5,.int .i64 (((n:Nat):Int)-1))] ?_)))
  refine CG.loop (fun μ_ Γ w_=>∃ (m:Nat) (h_:Hp),μ_=m∧Γ=[(0,.slice A n c),(1,.slice D m_ d),(5,.int .i64 (((m:Nat):Int)-1))]∧SS w h w_ h_ [] [] [fun h_=>SlO 1 u64c 0 h_ D (wds y),fun h_=>SlO 1 u64c 0 h_ A (wds x)]∧(m≤n)∧((wds x).length=(wds y).length)∧((wds x).drop m=(wds y).drop m)) _ ⟨n,h,rfl,rfl,hs.to _ _,Nat.le_refl _,oM,(by rw[List.drop_eq_nil_of_le oM,List.drop_eq_nil_of_le oM])⟩ ?_
  rintro _ _ w2 ⟨m,h3,hm4,rfl,hs,hm,hlen,hdr⟩
  refine CG.seq (cSL (lL hs [.m 19 5] ?_))
  cases hb5:(decide ((0:Int)≤(((m:Nat):Int)-1:Int)))
  ·
   have phb5:=oF hb5
   refine lB 20 hb5 ?_
   refine lN (cIF (CG.exit ?_))
   show CG _ _ _ _ _ _ _ _
   exact cSL (lL hs [.v 4 (.int .i64 0)] (lN (CG.ret (hs.ret [] (.int .i64 0) (by rw[cmpN_eq (wds_eq (by rw[show m=0 by omega] at hdr;simpa using hdr))])))))
  have phb5:=oT hb5
  refine lB 20 hb5 ?_
  refine lN (cIT (CG.skipN (CG.seq (CG.block (CG.seq (cR 9 [] mixed hs al_nil ?_))))))
  refine eV 0 23 (.slice A n c) ?_
  refine eV 1 24 (.int .i64 (((m:Nat):Int)-1)) ?_
  refine eX 2 25 A n c 1 (((m:Nat):Int)-1) (m-1) ((hs.f.2.1).ok oM) ?_
  refine eH 3 26 (.int .u64 ((wds x).getD (m-1) 0:Nat)) hs ((hs.f.2.1).el (m-1) oM) ?_
  refine eV 4 27 (.slice D m_ d) ?_
  refine eV 5 28 (.int .i64 (((m:Nat):Int)-1)) ?_
  refine eX 6 29 D m_ d 1 (((m:Nat):Int)-1) (m-1) ((hs.f.1).ok oM) ?_
  refine eH 7 30 (.int .u64 ((wds y).getD (m-1) 0:Nat)) hs ((hs.f.1).el (m-1) oM) ?_
  cases hb6:((((wds x).getD (m-1) 0:Nat):Int) != (((wds y).getD (m-1) 0:Nat):Int))
  ·
   have phb6:=eqOfBne hb6
   refine eB 8 31 hb6 ?_
   refine eD0 hs (fun w7 h8 hs=>?_)
   refine tN (cIF (CG.skipN (CG.listed (lL hs [.m 21 5] (lV 22 (.int .i64 (((m-1:Nat):Int)-1)) ?_ (hr:=rint (n:=IntKind.wrap .i64 ((((m:Nat):Int)-1)-1)) kR ((wr64 oM oM).trans oM)))))))
   refine lL hs [.m 5 22] (lD ?_)
   intro a_ ka
   have q9:(m-1)≤n:=by omega
   have q10:(wds x).length=(wds y).length:=hlen
   have q11:(wds x).drop (m-1)=(wds y).drop (m-1):=(drop_eq_step (k:=m-1) hlen oM (by rw[show m-1+1=m by omega];exact hdr) oM)
   refine ⟨_,_,?_,⟨m-1,h8,rfl,rfl,hs.to _ _,q9,q10,q11⟩,ka.to [(0,.slice A n c),(1,.slice D m_ d),(5,.int .i64 ((((m-1):Nat):Int)-1))] kR⟩
   omega
  have phb6:=neOfBne hb6
  refine eB 8 31 hb6 ?_
  refine eD0 hs (fun w12 h13 hs=>?_)
  refine tN (cIT (CG.seq (CG.seq (cR 9 [] mixed hs al_nil ?_))))
  refine eV 0 32 (.slice A n c) ?_
  refine eV 1 33 (.int .i64 (((m:Nat):Int)-1)) ?_
  refine eX 2 34 A n c 1 (((m:Nat):Int)-1) (m-1) ((hs.f.2.1).ok oM) ?_
  refine eH 3 35 (.int .u64 ((wds x).getD (m-1) 0:Nat)) hs ((hs.f.2.1).el (m-1) oM) ?_
  refine eV 4 36 (.slice D m_ d) ?_
  refine eV 5 37 (.int .i64 (((m:Nat):Int)-1)) ?_
  refine eX 6 38 D m_ d 1 (((m:Nat):Int)-1) (m-1) ((hs.f.1).ok oM) ?_
  refine eH 7 39 (.int .u64 ((wds y).getD (m-1) 0:Nat)) hs ((hs.f.1).el (m-1) oM) ?_
  cases hb14:(decide ((((wds x).getD (m-1) 0:Nat):Int)<(((wds y).getD (m-1) 0:Nat):Int)))
  ·
   have phb14:=oF hb14
   refine eB 8 40 hb14 ?_
   refine eD0 hs (fun w15 h16 hs=>?_)
   exact tN (cIF (CG.skipN (cSL (lL hs [.v 4 (.int .i64 1)] (lN (CG.ret (hs.ret [] (.int .i64 1) (by rw[←wds_cmp (k:=m-1) hlen oM (by rw[show m-1+1=m by omega];exact hdr) oM,cmpN_gt oM]))))))))
  have phb14:=oT hb14
  refine eB 8 40 hb14 ?_
  refine eD0 hs (fun w17 h18 hs=>?_)
  exact tN (cIT (cSL (lL hs [.v 4 (.int .i64 (-1))] (lN (CG.ret (hs.ret [] (.int .i64 (-1)) (by rw[←wds_cmp (k:=m-1) hlen oM (by rw[show m-1+1=m by omega];exact hdr) oM,cmpN_lt oM])))))))
 have phb1:=neOfBne hb1
 refine lB 10 hb1 ?_
 refine lN (cIT (CG.seq (cSL (lL hs [.m 11 0,.v 12 (.int .i64 (n:Nat)),.m 13 1,.v 14 (.int .i64 (m_:Nat))] ?_))))
 cases hb19:(decide (((n:Nat):Int)<((m_:Nat):Int)))
 ·
  have phb19:=oF hb19
  refine lB 15 hb19 ?_
  exact lN (cIF (CG.skipN (cSL (lL hs [.v 4 (.int .i64 1)] (lN (CG.ret (hs.ret [] (.int .i64 1) (by rw[cmpN_gt (wds_cmp_len oM)]))))))))
 have phb19:=oT hb19
 refine lB 15 hb19 ?_
 exact lN (cIT (cSL (lL hs [.v 4 (.int .i64 (-1))] (lN (CG.ret (hs.ret [] (.int .i64 (-1)) (by rw[cmpN_lt (wds_cmp_len oM)])))))))
theorem wWords (n:Nat)(hn:0<n)(hl:(wds n).length≤1000000000)(w:World)(h:Hp)(g:G w h) :
    Calls Tryz.prog 131 #[nv n] w (Ret w h fun v h1=>NewW h h1 v (wds n)):=by
 have hs:=SS.start g
 have hnb:=nb_len64 n
 have hwl:=wds_len_nb n
 have hbl:=byt_len n ((nb n+7)/8)
 have hnb0:=(nb_spec hn).2.2
 refine go Tryz.func131 [(0,nv n)] rfl ?_
 refine cSL (lA 1 52 (nc n) hs (fun b1 w2 h3 hs=>?_))
 refine lL hs [.v 2 (.slice none 0 0)] (lNS (lL hs [.o 6 (nv n) 0 0 2] (lC 7 hs (nBytes n hl _ _ hs.g) ?_)))
 rintro _ w4 h5 hs ⟨Ab,rfl,hb⟩
 replace hs:=(hs.a_SlO hb)
 refine lL hs [.m 3 7] (lNS (lL hs [.m 8 3,.v 9 (.int .i64 (((nb n+7)/8):Nat))] (lIn 10 ((((nb n+7)/8):Nat)+7) ((((nb n+7)/8):Nat)+7) ?_)))
 refine lV 11 (.int .i64 (((((nb n+7)/8):Nat)+7:Nat)/8:Nat)) ?_ (hr:=rint (opQuo (t:=3) (u:=3) (x:=.tmp 10) (y:=.const (.int .i64 8)) (k:=.i64) (a:=(((((nb n+7)/8):Nat)+7:Nat):Int)) (b:=(8:Int)) kR kR kR oM _) (quoI64 ((((nb n+7)/8):Nat)+7:Nat) 8 oM))
 refine lK 12 50 (((((nb n+7)/8):Nat)+7:Nat)/8:Nat) 1 8 (.int .u64 0) u64c 0 hs (fun b6 w7 h8 hs=>?_)
 have hl9:(List.replicate (((((nb n+7)/8):Nat)+7:Nat)/8:Nat) 0).length=(((((nb n+7)/8):Nat)+7:Nat)/8:Nat):=by simp
 refine lL hs [.m 4 12] (lN (CG.seq (cSL (lL hs [.m 13 3,.v 14 (.int .i64 (((nb n+7)/8):Nat)),.v 15 (.int .i64 0)] (lN (CG.block (cTo [(2,.slice none 0 0),(3,.slice Ab ((nb n+7)/8) ((nb n+7)/8)),(4,.slice (some ⟨b6,0,none⟩) (((((nb n+7)/8):Nat)+7:Nat)/8:Nat) (((((nb n+7)/8):Nat)+7:Nat)/8:Nat)),(14,.int .i64 (((nb n+7)/8):Nat)),(15,.int .i64 0)] ?_)))))))
 refine CG.loop (fun μ_ Γ w_=>∃ (i:Nat) (l:List Nat) (h_:Hp),μ_=((nb n+7)/8)-i∧Γ=[(2,.slice none 0 0),(3,.slice Ab ((nb n+7)/8) ((nb n+7)/8)),(4,.slice (some ⟨b6,0,none⟩) (((((nb n+7)/8):Nat)+7:Nat)/8:Nat) (((((nb n+7)/8):Nat)+7:Nat)/8:Nat)),(14,.int .i64 (((nb n+7)/8):Nat)),(15,.int .i64 (i:Nat))]∧SS w h w_ h_ [⟨b6,50,(l).flatMap u64c⟩,⟨b1,52,nc n⟩] [] [fun h_=>SlO 1 u8c 0 h_ Ab (byt n ((nb n+7)/8))]∧(i≤((nb n+7)/8))∧(l.length=(((nb n+7)/8)+7)/8)∧(Wd l)∧(wval l=n%256^i)) _ ⟨0,List.replicate (((((nb n+7)/8):Nat)+7:Nat)/8:Nat) 0,h8,rfl,rfl,hs.to _ _,Nat.zero_le _,hl9,Wd.rep _,(by show bval _ _=_;rw[bval_rep,Nat.pow_zero,Nat.mod_one])⟩ ?_
 rintro _ _ w10 ⟨i,l,h11,hm12,rfl,hs,hi,hll,hW,inv⟩
 have hbi:=byt_getD_lt n ((nb n+7)/8) (((nb n+7)/8)-1-i)
 refine cSL ?_
 cases hb13:(decide (((i:Nat):Int)<((((nb n+7)/8):Nat):Int)))
 ·
  have phb13:=oF hb13
  refine lB 16 hb13 ?_
  refine lN (CG.seq (cIF (CG.exit ?_)))
  show CG _ _ _ _ _ _ _ _
  refine cSL (lL hs [.m 39 4,.m 2 39] (lN (CG.ret ?_)))
  have him:i=((nb n+7)/8):=by omega
  have hE:wval l=n:=by rw[inv,him];exact Nat.mod_eq_of_lt (lt256 n)
  have hlw:l=wds n:=by rw[←hE];exact (wds_full hW (by rw[hll,hE];omega)).symm
  rw[hlw] at hs
  obtain ⟨h14,hs,sg15,lo16,bc17⟩:=hs.pub 0
  replace hs:=(hs.to [⟨b1,52,nc n⟩] []).a_SlO (SlO.of_flat (sz:=1) (f:=u64c) (d:=0) (b:=b6) (o:=0) (l:=wds n) (fun _=>rfl) sg15)
  exact hs.ret [] (.slice (some ⟨b6,0,none⟩) (((((nb n+7)/8):Nat)+7:Nat)/8:Nat) (((((nb n+7)/8):Nat)+7:Nat)/8:Nat)) (⟨b6,(by rw[show (((nb n+7)/8)+7)/8=(wds n).length by omega]),lo16,bc17,(hs.f.1)⟩)
 have phb13:=oT hb13
 refine lB 16 hb13 ?_
 refine lN (CG.seq (cIT (CG.skipN (CG.seq (CG.block (cSL (lL hs [.m 17 15,.m 5 17] (lN (cR 19 [] mixed hs al_nil ?_)))))))))
 refine eV 0 18 (.slice (some ⟨b6,0,none⟩) (((((nb n+7)/8):Nat)+7:Nat)/8:Nat) (((((nb n+7)/8):Nat)+7:Nat)/8:Nat)) ?_
 refine eV 1 19 (.int .i64 (i:Nat)) ?_
 refine eV 2 20 (.int .i64 (i/8:Nat)) ?_ (hv:=fun _=>rint (opQuo (t:=3) (u:=3) (x:=.tmp 19) (y:=.const (.int .i64 8)) (k:=.i64) (a:=((i:Nat):Int)) (b:=(8:Int)) kR kR kR oM _) (quoI64 i 8 oM))
 refine eX 3 21 (some ⟨b6,0,none⟩) (((((nb n+7)/8):Nat)+7:Nat)/8:Nat) (((((nb n+7)/8):Nat)+7:Nat)/8:Nat) 1 (i/8:Nat) (i/8) rfl ?_
 refine eQ 4 22 0 l u64c 1 0 (i/8) (.int .u64 ((l).getD (i/8) 0:Nat)) hs oM ?_
 refine eV 5 23 (.slice Ab ((nb n+7)/8) ((nb n+7)/8)) ?_
 refine eV 6 24 (.slice Ab ((nb n+7)/8) ((nb n+7)/8)) ?_
 refine eV 7 25 (.int .i64 (((nb n+7)/8):Nat)) ?_
 refine eIn 8 26 ((((nb n+7)/8):Nat)-1) ((((nb n+7)/8):Nat)-1) ?_
 refine eV 9 27 (.int .i64 (i:Nat)) ?_
 refine eIn 10 28 (((((nb n+7)/8):Nat)-1:Nat)-(i:Nat)) (((((nb n+7)/8):Nat)-1:Nat)-i) ?_
 refine eX 11 29 Ab ((nb n+7)/8) ((nb n+7)/8) 1 (((((nb n+7)/8):Nat)-1:Nat)-i:Nat) (((((nb n+7)/8):Nat)-1:Nat)-i:Nat) ((hs.f.1).ok oM) ?_
 refine eH 12 30 (.int .u8 ((byt n ((nb n+7)/8)).getD (((((nb n+7)/8):Nat)-1:Nat)-i:Nat) 0:Nat)) hs ((hs.f.1).el (((((nb n+7)/8):Nat)-1:Nat)-i:Nat) oM) ?_
 refine eV 13 31 (.int .u64 ((byt n ((nb n+7)/8)).getD (((((nb n+7)/8):Nat)-1:Nat)-i:Nat) 0:Nat)) ?_ (hv:=fun _=>rint (n:=IntKind.wrap .u64 (((byt n ((nb n+7)/8)).getD (((((nb n+7)/8):Nat)-1:Nat)-i:Nat) 0:Nat):Int)) kR (fitU64 oM oM))
 refine eV 14 32 (.int .i64 (i:Nat)) ?_
 refine eV 15 33 (.int .i64 (i%8:Nat)) ?_ (hv:=fun _=>rint (opRem (t:=3) (u:=3) (x:=.tmp 32) (y:=.const (.int .i64 8)) (k:=.i64) (a:=((i:Nat):Int)) (b:=(8:Int)) kR kR kR oM _) (tmodNat i 8))
 refine eIn 16 34 (8*(i%8:Nat)) (8*(i%8)) ?_
 refine eV 17 35 (.int .u64 (((byt n ((nb n+7)/8)).getD (((((nb n+7)/8):Nat)-1:Nat)-i:Nat) 0:Nat)*2^(8*(i%8))%18446744073709551616:Nat)) ?_ (hv:=fun _=>opShlN (t:=50) (u:=3) (x:=.tmp 31) (y:=.tmp 34) (ky:=.i64) (a:=((byt n ((nb n+7)/8)).getD (((((nb n+7)/8):Nat)-1:Nat)-i:Nat) 0:Nat)) (n:=(8*(i%8))) kR kR kR _)
 obtain ⟨hS1,hS2,hS3⟩:=fb_step oM inv (show (byt n ((nb n+7)/8)).getD (((nb n+7)/8)-1-i) 0=n/256^i%256 by rw[byt_get n ((nb n+7)/8) _ oM,show ((nb n+7)/8)-1-(((nb n+7)/8)-1-i)=i by omega])
 have hlg:=hW.get (i/8)
 refine eV 18 36 (.int .u64 (l.getD (i/8) 0+(byt n ((nb n+7)/8)).getD (((nb n+7)/8)-1-i) 0*2^(8*(i%8)):Nat)) ?_ (hv:=fun _=>rint (opOr (t:=50) (u:=50) (x:=.tmp 22) (y:=.tmp 35) (a:=((l).getD (i/8) 0)) (b:=(((byt n ((nb n+7)/8)).getD (((((nb n+7)/8):Nat)-1:Nat)-i:Nat) 0:Nat)*2^(8*(i%8))%18446744073709551616:Nat)) kR kR kR oM oM _) (by rw[hS1]))
 refine eD0 hs (fun w19 h20 hs=>?_)
 refine tX 19 37 (some ⟨b6,0,none⟩) (((((nb n+7)/8):Nat)+7:Nat)/8:Nat) (((((nb n+7)/8):Nat)+7:Nat)/8:Nat) 1 (i/8:Nat) (i/8) rfl ?_
 refine tW 20 0 l u64c 1 (i/8) (l.getD (i/8) 0+(byt n ((nb n+7)/8)).getD (((nb n+7)/8)-1-i) 0*2^(8*(i%8)):Nat) hs oM (fun w21 hs=>?_)
 have hl22:((l).set (i/8) (l.getD (i/8) 0+(byt n ((nb n+7)/8)).getD (((nb n+7)/8)-1-i) 0*2^(8*(i%8)):Nat)).length=(((((nb n+7)/8):Nat)+7:Nat)/8:Nat):=by rw[List.length_set];exact hll
 replace hs:=hs.to [⟨b6,50,((l).set (i/8) (l.getD (i/8) 0+(byt n ((nb n+7)/8)).getD (((nb n+7)/8)-1-i) 0*2^(8*(i%8)):Nat)).flatMap u64c⟩,⟨b1,52,nc n⟩] []
 refine tN (CG.listed (lIn 38 ((i:Nat)+1) (i+1) ?_))
 refine lL hs [.m 15 38] (lD ?_)
 intro a_ ka
 have q23:(i+1)≤((nb n+7)/8):=by omega
 have q24:((l).set (i/8) (l.getD (i/8) 0+(byt n ((nb n+7)/8)).getD (((nb n+7)/8)-1-i) 0*2^(8*(i%8)):Nat)).length=(((nb n+7)/8)+7)/8:=hl22
 have q25:Wd ((l).set (i/8) (l.getD (i/8) 0+(byt n ((nb n+7)/8)).getD (((nb n+7)/8)-1-i) 0*2^(8*(i%8)):Nat)):=hW.set _ hS2
 have q26:wval ((l).set (i/8) (l.getD (i/8) 0+(byt n ((nb n+7)/8)).getD (((nb n+7)/8)-1-i) 0*2^(8*(i%8)):Nat))=n%256^(i+1):=hS3
 refine ⟨_,_,?_,⟨i+1,(l).set (i/8) (l.getD (i/8) 0+(byt n ((nb n+7)/8)).getD (((nb n+7)/8)-1-i) 0*2^(8*(i%8)):Nat),h20,rfl,rfl,hs.to _ _,q23,q24,q25,q26⟩,ka.to [(2,.slice none 0 0),(3,.slice Ab ((nb n+7)/8) ((nb n+7)/8)),(4,.slice (some ⟨b6,0,none⟩) (((((nb n+7)/8):Nat)+7:Nat)/8:Nat) (((((nb n+7)/8):Nat)+7:Nat)/8:Nat)),(14,.int .i64 (((nb n+7)/8):Nat)),(15,.int .i64 ((i+1):Nat))] kR⟩
 omega
theorem wNumber (A:Option Addr)(c:Nat)(l:List Nat)(n:Nat)(hn:l.length=n)(hW:Wd l)(hl:l.length≤1000000000)(w:World)(h:Hp)(g:G w h)(hA:SlO 1 u64c 0 h A l) :
    Calls Tryz.prog 136 #[.slice A n c] w (Ret w h fun v _=>v=nv (wval l)):=by
 have hs:=SS.start g
 replace hs:=(hs.a_SlO hA)
 refine go Tryz.func136 [(0,.slice A n c)] rfl ?_
 refine cSL (lA 2 52 ([.int .u64 0,.string ⟨#[]⟩]) hs (fun b1 w2 h3 hs=>?_))
 refine lNS (lL hs [.m 5 0,.v 6 (.int .i64 (n:Nat))] (lIn 7 (8*(n:Nat)) (8*n) ?_))
 refine lK 8 5 (8*n) 1 1 (.int .u8 0) u8c 0 hs (fun b4 w5 h6 hs=>?_)
 have hl7:(List.replicate (8*n) 0).length=(8*n):=by simp
 refine lL hs [.m 3 8] (lN (CG.seq (cSL (lL hs [.m 9 3,.v 10 (.int .i64 ((8*n):Nat)),.v 11 (.int .i64 0)] (lN (CG.block (cTo [(0,.slice A n c),(2,.pointer (some ⟨b1,0,none⟩)),(3,.slice (some ⟨b4,0,none⟩) (8*n) (8*n)),(10,.int .i64 ((8*n):Nat)),(11,.int .i64 0)] ?_)))))))
 refine CG.loop (fun μ_ Γ w_=>∃ (i:Nat) (z:List Nat) (h_:Hp),μ_=8*n-i∧Γ=[(0,.slice A n c),(2,.pointer (some ⟨b1,0,none⟩)),(3,.slice (some ⟨b4,0,none⟩) (8*n) (8*n)),(10,.int .i64 ((8*n):Nat)),(11,.int .i64 (i:Nat))]∧SS w h w_ h_ [⟨b4,5,(z).flatMap u8c⟩,⟨b1,52,[.int .u64 0,.string ⟨#[]⟩]⟩] [] [fun h_=>SlO 1 u64c 0 h_ A l]∧(i≤8*n)∧(z.length=8*n)∧(∀ j,j<i→z.getD (8*n-1-j) 0=wval l/256^j%256)) _ ⟨0,List.replicate (8*n) 0,h6,rfl,rfl,hs.to _ _,Nat.zero_le _,hl7,(fun j hj=>absurd hj oM)⟩ ?_
 rintro _ _ w8 ⟨i,z,h9,hm10,rfl,hs,hi,hzl,hg⟩
 have hwi:=hW.get (i/8)
 refine cSL ?_
 cases hb11:(decide (((i:Nat):Int)<(((8*n):Nat):Int)))
 ·
  have phb11:=oF hb11
  refine lB 12 hb11 ?_
  refine lN (CG.seq (cIF (CG.exit ?_)))
  show CG _ _ _ _ _ _ _ _
  refine cSL (lL hs [.m 32 3] ?_)
  have him:i=8*n:=by omega
  have hlb:z=byt (wval l) (8*n):=eq_byt hzl (fun j hj=>hg j oM)
  rw[hlb] at hs
  obtain ⟨h12,hs,sg13,lo14,bc15⟩:=hs.pub 0
  replace hs:=(hs.to [⟨b1,52,[.int .u64 0,.string ⟨#[]⟩]⟩] []).a_SlO (SlO.of_flat (sz:=1) (f:=u8c) (d:=0) (b:=b4) (o:=0) (l:=byt (wval l) (8*n)) (fun _=>rfl) sg13)
  refine lC 33 hs (nFromB (wval l) (8*n) (some ⟨b4,0,none⟩) (8*n) oM oM (by have:=w256 hW;rwa [hn] at this) _ _ hs.g (hs.f.1)) ?_
  rintro _ w17 h18 hs rfl
  refine lP 0 0 (nc (wval l)) hs (fun w19 hs=>?_)
  exact lN (CG.ret (hs.ret [(0,0,2)] (nv (wval l)) rfl))
 have phb11:=oT hb11
 refine lB 12 hb11 ?_
 refine lN (CG.seq (cIT (CG.skipN (CG.seq (CG.block (cSL (lL hs [.m 13 11,.m 4 13] (lN (CG.listed (lL hs [.m 14 3,.m 15 3,.v 16 (.int .i64 ((8*n):Nat))] (lIn 17 (((8*n):Nat)-1) ((8*n)-1) ?_)))))))))))
 refine lL hs [.m 18 4] (lIn 19 (((8*n)-1:Nat)-(i:Nat)) (((8*n)-1)-i) ?_)
 refine lL hs [.m 20 0,.m 21 4] (lV 22 (.int .i64 (i/8:Nat)) ?_ (hr:=rint (opQuo (t:=3) (u:=3) (x:=.tmp 21) (y:=.const (.int .i64 8)) (k:=.i64) (a:=((i:Nat):Int)) (b:=(8:Int)) kR kR kR oM _) (quoI64 i 8 oM)))
 refine lX 23 A n c 1 (i/8:Nat) (i/8) ((hs.f.1).ok oM) ?_
 refine lH 24 (.int .u64 (l.getD (i/8) 0:Nat)) hs ((hs.f.1).el (i/8) oM) ?_
 refine lL hs [.m 25 4] (lV 26 (.int .i64 (i%8:Nat)) ?_ (hr:=rint (opRem (t:=3) (u:=3) (x:=.tmp 25) (y:=.const (.int .i64 8)) (k:=.i64) (a:=((i:Nat):Int)) (b:=(8:Int)) kR kR kR oM _) (tmodNat i 8)))
 refine lIn 27 (8*(i%8:Nat)) (8*(i%8)) ?_
 refine lV 28 (.int .u64 ((l.getD (i/8) 0)/2^(8*(i%8)):Nat)) ?_ (hr:=opShrN (t:=50) (u:=3) (x:=.tmp 24) (y:=.tmp 27) (ky:=.i64) (a:=(l.getD (i/8) 0)) (n:=(8*(i%8))) kR kR kR oM _)
 refine lV 29 (.int .u8 (l.getD (i/8) 0/2^(8*(i%8))%256:Nat)) ?_ (hr:=rint (n:=IntKind.wrap .u8 ((l.getD (i/8) 0/2^(8*(i%8)):Nat):Int)) kR (wrU8 _))
 refine lX 30 (some ⟨b4,0,none⟩) (8*n) (8*n) 1 (((8*n)-1)-i:Nat) (((8*n)-1)-i:Nat) rfl ?_
 refine lW 0 z u8c 1 (((8*n)-1)-i:Nat) (l.getD (i/8) 0/2^(8*(i%8))%256:Nat) hs oM (fun w20 hs=>?_)
 have hl21:((z).set (((8*n)-1)-i:Nat) (l.getD (i/8) 0/2^(8*(i%8))%256:Nat)).length=(8*n):=by rw[List.length_set];exact hzl
 replace hs:=hs.to [⟨b4,5,((z).set (((8*n)-1)-i:Nat) (l.getD (i/8) 0/2^(8*(i%8))%256:Nat)).flatMap u8c⟩,⟨b1,52,[.int .u64 0,.string ⟨#[]⟩]⟩] []
 refine lN (CG.listed (lIn 31 ((i:Nat)+1) (i+1) ?_))
 refine lL hs [.m 11 31] (lD ?_)
 intro a_ ka
 have q22:(i+1)≤8*n:=by omega
 have q23:((z).set (((8*n)-1)-i:Nat) (l.getD (i/8) 0/2^(8*(i%8))%256:Nat)).length=8*n:=hl21
 have q24:∀ j,j<(i+1)→((z).set (((8*n)-1)-i:Nat) (l.getD (i/8) 0/2^(8*(i%8))%256:Nat)).getD (8*n-1-j) 0=wval l/256^j%256:=(set_from_top hzl oM hg (byte_row hW i))
 refine ⟨_,_,?_,⟨i+1,(z).set (((8*n)-1)-i:Nat) (l.getD (i/8) 0/2^(8*(i%8))%256:Nat),h9,rfl,rfl,hs.to _ _,q22,q23,q24⟩,ka.to [(0,.slice A n c),(2,.pointer (some ⟨b1,0,none⟩)),(3,.slice (some ⟨b4,0,none⟩) (8*n) (8*n)),(10,.int .i64 ((8*n):Nat)),(11,.int .i64 ((i+1):Nat))] kR⟩
 omega
def win (l:List Nat)(o n:Nat):List Nat:=(l.drop o).take n
theorem win_len {l:List Nat}{o n:Nat}(h:o+n≤l.length):(win l o n).length=n:=by unfold win;rw[List.length_take,List.length_drop];omega
theorem win_get {l:List Nat}{o n j:Nat}(h:j<n):(win l o n).getD j 0=l.getD (o+j) 0:=by unfold win;rw[getD_take' h,getD_drop']
theorem win_set {l:List Nat}{o n i x:Nat}(hi:i<n):win (l.set (o+i) x) o n=(win l o n).set i x:=by
  unfold win
  rw[List.drop_set,if_neg oM,List.take_set,show o+i-o=i by omega]
theorem win_drop {l:List Nat}{o n q:Nat}:(win l o n).drop q=win l (o+q) (n-q):=by
  unfold win;rw[List.drop_take,List.drop_drop]
theorem win_take {l:List Nat}{o n m:Nat}(h:m≤n):(win l o n).take m=win l o m:=by
  unfold win;rw[List.take_take,Nat.min_eq_left h]
theorem win_all (l:List Nat)(n:Nat)(h:l.length≤n):win l 0 n=l:=by unfold win;rw[List.drop_zero,List.take_of_length_le h]
theorem Wd.win {l:List Nat}(h:Wd l)(o n:Nat):Wd (win l o n):=Dg.take (Dg.drop h o) n
theorem dn_step {Z W:List Nat}{i p d r0:Nat}(hi:i<Z.length)(inv:2^p*bval 18446744073709551616 (Z.take i)+r0=bval 18446744073709551616 (W.take i)+18446744073709551616^i*(W.getD i 0%2^p))
    (hd:2^p*d+W.getD i 0%2^p=W.getD i 0+18446744073709551616*(W.getD (i+1) 0%2^p)) :
    2^p*bval 18446744073709551616 ((Z.set i d).take (i+1))+r0=bval 18446744073709551616 (W.take (i+1))+18446744073709551616^(i+1)*(W.getD (i+1) 0%2^p):=by
  have e1:=bval_take_next 18446744073709551616 (Z.set i d) i
  have e2:(Z.set i d).take i=Z.take i:=by rw[List.take_set,List.set_eq_of_length_le];rw[List.length_take];omega
  rw[e2,getD_set' hi,if_pos rfl] at e1
  have e3:=bval_take_next 18446744073709551616 W i
  have e4:=congrArg (18446744073709551616^i * ·) hd
  simp only[Nat.mul_add] at e4
  rw[e1,e3,Nat.pow_succ,Nat.mul_add]
  have e5:2^p*(18446744073709551616^i*d)=18446744073709551616^i*(2^p*d):=by ac_rfl
  have e6:18446744073709551616^i*18446744073709551616*(W.getD (i+1) 0%2^p)=18446744073709551616^i*(18446744073709551616*(W.getD (i+1) 0%2^p)):=by ac_rfl
  rw[e5,e6]
  omega
theorem dn_start {X:List Nat}(hX:Wd X){k m:Nat}(t:Tz (wval X) k m)(hk:k/64<X.length):wval (X.drop (k/64))=2^(k%64)*m∧(X.drop (k/64)).getD 0 0%2^(k%64)=0:=by
  have h1:wval (X.drop (k/64))=2^(k%64)*m:=by
    rw[wval_drop hX oM,t.1,pow_n k,Nat.mul_assoc,Nat.mul_div_cancel_left _ (Nat.pow_pos kD)]
  refine ⟨h1,?_⟩
  have h2:wval (X.drop (k/64))=(X.drop (k/64)).getD 0 0+18446744073709551616*bval 18446744073709551616 ((X.drop (k/64)).drop 1):=by
    have:=bval_drop 18446744073709551616 (l:=X.drop (k/64)) (k:=0) (by rw[List.length_drop];omega)
    rwa [List.drop_zero] at this
  have e64:(18446744073709551616:Nat)=2^(k%64)*2^(64-k%64):=by rw[←Nat.pow_add,show k%64+(64-k%64)=64 by omega]
  rw[h1] at h2
  have h3:(2^(k%64)*m)%2^(k%64)=0:=Nat.mul_mod_right _ _
  rw[h2] at h3
  conv at h3=>lhs;rw[e64]
  rw[Nat.mul_assoc,Nat.add_mul_mod_self_left] at h3
  exact h3
theorem dn_end {Z W:List Nat}{p m:Nat}(hl:W.length≤Z.length)(inv:2^p*bval 18446744073709551616 (Z.take Z.length)+0=bval 18446744073709551616 (W.take Z.length)+18446744073709551616^Z.length*(W.getD Z.length 0%2^p))(e:wval W=2^p*m):wval Z=m:=by
  rw[List.take_length,List.take_of_length_le hl,getD_out hl,Nat.zero_mod,Nat.mul_zero,Nat.add_zero,Nat.add_zero] at inv
  have e2:bval 18446744073709551616 W=2^p*m:=e
  rw[e2] at inv
  exact Nat.eq_of_mul_eq_mul_left (Nat.two_pow_pos p) inv
theorem keep_set {l X:List Nat}{q i x N:Nat}(hl:q+i<l.length)(h:∀ j,i≤j→j<N→l.getD (q+j) 0=X.getD j 0):∀ j,i+1≤j→j<N→(l.set (q+i) x).getD (q+j) 0=X.getD j 0:=fun j h1 h2=>by
  rw[getD_set' hl,if_neg oM];exact h j oM h2
theorem wDown (rb:Nat)(l0:List Nat)(o n c x:Nat)(hx:0<x)(hl0:l0.length≤1000000000)(hon:o+n≤l0.length)(hnc:n≤c)(hW0:Wd l0)(hwin:win l0 o n=wds x)(w:World)(h:Hp)(g:G w h)(ho:Own w rb 50 (l0.flatMap u64c))(hj:h[rb]?=some junk)(tb:Tab h) :
    Calls Tryz.prog 133 #[.slice (some ⟨rb,o,none⟩) n c] w (RetM rb w h fun v w' _=>∃ z:List Nat,∃ o' n' c':Nat,v=.slice (some ⟨rb,o',none⟩) n' c'∧z.length=l0.length∧Wd z∧o'+n'≤z.length∧n'≤c'∧(∃ k m:Nat,Tz x k m∧win z o' n'=wds m)∧Own w' rb 50 (z.flatMap u64c)):=by
 have hmo:UpM [rb] w h w h:=UpM.refl g
 obtain ⟨wz,hz,hs⟩:=SS.at_ g ho hj
 have hl0_:l0.length=l0.length:=rfl
 replace hs:=(hs.add (K:=fun h_=>Tab h_) tb)
 refine go Tryz.func133 [(0,.slice (some ⟨rb,o,none⟩) n c)] rfl ?_
 refine cSL (lL hs [.v 2 (.slice none 0 0)] (lNS (lL hs [.m 6 0] (lClu 7 0 hs (fun _ g_ f_ sg_=>wZeros (some ⟨rb,o,none⟩) c (win l0 o n) n (win_len hon) (hW0.win _ _) (by rw[hwin,wval_wds];exact hx) (by rw[win_len hon];omega) _ _ g_ (f_.1) (SlO.win (f:=u64c) (d:=0) (b:=rb) (l:=l0) (fun _=>rfl) sg_ o n)) ?_))))
 rintro _ w1 h2 u3 hs ⟨k,m,rfl,htz,hkn⟩
 replace hmo:=hmo.trans (u3.m _)
 rw[win_len hon] at hkn
 have hX:=hW0.win o n
 obtain ⟨hE0,hr0⟩:=dn_start hX htz (by rw[win_len hon];omega)
 rw[win_drop] at hE0 hr0
 obtain ⟨X,hXd⟩:∃ X,X=win l0 (o+k/64) (n-k/64):=⟨_,rfl⟩
 rw[←hXd] at hE0 hr0
 have hXl:X.length=n-k/64:=by rw[hXd];exact win_len oM
 have hXW:Wd X:=by rw[hXd];exact hW0.win _ _
 have hXg:∀ j,j<n-k/64→X.getD j 0=l0.getD (o+k/64+j) 0:=fun j hj=>by rw[hXd];exact win_get hj
 refine lL hs [.m 3 7] (lNS (lL hs [.m 8 0,.m 9 3] (lV 10 (.int .i64 (k/64:Nat)) ?_ (hr:=rint (opQuo (t:=3) (u:=3) (x:=.tmp 9) (y:=.const (.int .i64 64)) (k:=.i64) (a:=((k:Nat):Int)) (b:=(64:Int)) kR kR kR oM _) (quoI64 k 64 oM)))))
 refine lFo 11 rb o n c 1 (k/64:Nat) (k/64) (o+(k/64)) ?_
 refine lL hs [.m 0 11] (lNS (lL hs [.m 12 3] (lV 13 (.int .i64 (k%64:Nat)) ?_ (hr:=rint (opRem (t:=3) (u:=3) (x:=.tmp 12) (y:=.const (.int .i64 64)) (k:=.i64) (a:=((k:Nat):Int)) (b:=(64:Int)) kR kR kR oM _) (tmodNat k 64)))))
 refine lL hs [.m 4 13] (lN (CG.seq (cSL (lL hs [.m 14 0,.v 15 (.int .i64 (n-(k/64):Nat)),.v 16 (.int .i64 0)] (lN (CG.block (cTo [(0,.slice (some ⟨rb,(o+(k/64)),none⟩) (n-(k/64)) (c-(k/64))),(2,.slice none 0 0),(4,.int .i64 (k%64:Nat)),(15,.int .i64 (n-(k/64):Nat)),(16,.int .i64 0)] ?_)))))))
 refine CG.loop (fun μ_ Γ w_=>∃ (i:Nat) (l:List Nat) (h_:Hp),μ_=(n-k/64)-i∧Γ=[(0,.slice (some ⟨rb,(o+(k/64)),none⟩) (n-(k/64)) (c-(k/64))),(2,.slice none 0 0),(4,.int .i64 (k%64:Nat)),(15,.int .i64 (n-(k/64):Nat)),(16,.int .i64 (i:Nat))]∧SS wz hz w_ h_ [⟨rb,50,(l).flatMap u64c⟩] [] [fun h_=>Tab h_]∧(i≤n-k/64)∧(l.length=l0.length)∧(Wd l)∧(2^(k%64)*bval 18446744073709551616 ((win l (o+k/64) (n-k/64)).take i)+0=bval 18446744073709551616 (X.take i)+18446744073709551616^i*(X.getD i 0%2^(k%64)))∧(∀ j,i≤j→j<n-k/64→l.getD (o+k/64+j) 0=X.getD j 0)∧(UpM [rb] w h w_ h_)) _ ⟨0,l0,h2,rfl,rfl,hs.to _ _,Nat.zero_le _,rfl,hW0,(by rw[hr0];simp[bval]),(fun j _ hj=>(hXg j hj).symm),hmo⟩ ?_
 rintro _ _ w4 ⟨i,l,h5,hm6,rfl,hs,hi,hll,hW,inv,hun,hmo⟩
 refine cSL ?_
 cases hb7:(decide (((i:Nat):Int)<((n-(k/64):Nat):Int)))
 ·
  have phb7:=oF hb7
  refine lB 17 hb7 ?_
  refine lN (CG.seq (cIF (CG.exit ?_)))
  show CG _ _ _ _ _ _ _ _
  refine cSL (lL hs [.m 46 0] (lClu 47 0 hs (fun _ g_ f_ sg_=>wTrim (some ⟨rb,(o+k/64),none⟩) (c-(k/64)) (win l (o+k/64) (n-k/64)) (n-k/64) (win_len oM) (by rw[win_len oM];omega) (by rw[win_len oM];omega) _ _ g_ (SlO.win (f:=u64c) (d:=0) (b:=rb) (l:=l) (fun _=>rfl) sg_ (o+k/64) (n-k/64))) ?_))
  rintro _ w8 h9 u10 hs rfl
  replace hmo:=hmo.trans (u10.m _)
  refine lL hs [.m 2 47] (lN (CG.ret ?_))
  have hiN:i=n-k/64:=by omega
  have hZl:(win l (o+k/64) (n-k/64)).length=n-k/64:=win_len oM
  have hE:=dn_end (Z:=win l (o+k/64) (n-k/64)) oM (by rw[hZl,←hiN];rw[←hiN] at inv;exact inv) hE0
  have hZW:Wd (win l (o+k/64) (n-k/64)):=hW.win _ _
  have hwm:=wds_of hZW
  rw[hE,hZl] at hwm
  have htl:=tl_le (win l (o+k/64) (n-k/64)) (n-k/64)
  exact hs.retM hmo [] (.slice (some ⟨rb,(o+k/64),none⟩) (tl (win l (o+k/64) (n-k/64)) (n-k/64)) (c-(k/64))) ⟨l,(o+k/64),_,_,rfl,hll,hW,by omega,by omega,⟨k,m,by rw[hwin,wval_wds] at htz;exact htz,by rw[hwm];exact (win_take htl).symm⟩,hs.own 0⟩
 have phb7:=oT hb7
 refine lB 17 hb7 ?_
 refine lN (CG.seq (cIT (CG.skipN (CG.seq (CG.block (cSL (lL hs [.m 18 16,.m 5 18] (lNS (lL hs [.m 19 0,.m 20 5] (lXo 21 rb (o+(k/64)) (n-(k/64)) (c-(k/64)) 1 (i:Nat) i ((o+(k/64))+i) ?_))))))))))
 refine lQ 22 0 l u64c 1 0 ((o+(k/64))+i) (.int .u64 ((l).getD ((o+(k/64))+i) 0:Nat)) hs oM ?_
 refine lL hs [.m 23 4] ?_
 have hXi:X.getD i 0=l.getD (o+k/64+i) 0:=(hun i (Nat.le_refl _) oM).symm
 have hxi:=hW.get (o+k/64+i)
 have hdv:=Nat.div_le_self (l.getD (o+k/64+i) 0) (2^(k%64))
 refine lV 24 (.int .u64 (((l).getD ((o+(k/64))+i) 0:Nat)/2^(k%64):Nat)) ?_ (hr:=opShrN (t:=50) (u:=3) (x:=.tmp 22) (y:=.tmp 23) (ky:=.i64) (a:=((l).getD ((o+(k/64))+i) 0:Nat)) (n:=(k%64)) kR kR kR oM _)
 refine lXo 25 rb (o+(k/64)) (n-(k/64)) (c-(k/64)) 1 (i:Nat) i ((o+(k/64))+i) ?_
 refine lWu 0 l u64c 1 ((o+(k/64))+i) (((l).getD ((o+(k/64))+i) 0:Nat)/2^(k%64):Nat) hs oM (fun w11 pu hs=>?_)
 replace hmo:=hmo.put pu (List.mem_singleton.2 rfl) hs.g
 have hl12:((l).set ((o+(k/64))+i) (((l).getD ((o+(k/64))+i) 0:Nat)/2^(k%64):Nat)).length=l0.length:=by rw[List.length_set];exact hll
 replace hs:=hs.to [⟨rb,50,((l).set ((o+(k/64))+i) (((l).getD ((o+(k/64))+i) 0:Nat)/2^(k%64):Nat)).flatMap u64c⟩] []
 refine lNS (lL hs [.m 26 5] (lIn 27 ((i:Nat)+1) (i+1) ?_))
 refine lL hs [.m 28 0,.v 29 (.int .i64 (n-(k/64):Nat))] ?_
 cases hb13:(decide (((i+1:Nat):Int)<((n-(k/64):Nat):Int)))
 ·
  have phb13:=oF hb13
  refine lB 30 hb13 ?_
  refine lN (cIF (CG.skipN (CG.listed (lIn 45 ((i:Nat)+1) (i+1) ?_))))
  refine lL hs [.m 16 45] (lD ?_)
  intro a_ ka
  have q14:(i+1)≤n-k/64:=by omega
  have q15:((l).set ((o+(k/64))+i) (((l).getD ((o+(k/64))+i) 0:Nat)/2^(k%64):Nat)).length=l0.length:=hl12
  have q16:Wd ((l).set ((o+(k/64))+i) (((l).getD ((o+(k/64))+i) 0:Nat)/2^(k%64):Nat)):=(hW.set _ oM)
  have q17:2^(k%64)*bval 18446744073709551616 ((win ((l).set ((o+(k/64))+i) (((l).getD ((o+(k/64))+i) 0:Nat)/2^(k%64):Nat)) (o+k/64) (n-k/64)).take (i+1))+0=bval 18446744073709551616 (X.take (i+1))+18446744073709551616^(i+1)*(X.getD (i+1) 0%2^(k%64)):=(by rw[win_set oM];exact dn_step (by rw[win_len oM];omega) inv (by rw[hXi,getD_out (l:=X) (show X.length≤i+1 by omega),Nat.zero_mod,Nat.mul_zero,Nat.add_zero];exact Nat.div_add_mod _ _))
  have q18:∀ j,(i+1)≤j→j<n-k/64→((l).set ((o+(k/64))+i) (((l).getD ((o+(k/64))+i) 0:Nat)/2^(k%64):Nat)).getD (o+k/64+j) 0=X.getD j 0:=(keep_set oM hun)
  have q19:UpM [rb] w h w11 h5:=hmo
  refine ⟨_,_,?_,⟨i+1,(l).set ((o+(k/64))+i) (((l).getD ((o+(k/64))+i) 0:Nat)/2^(k%64):Nat),h5,rfl,rfl,hs.to _ _,q14,q15,q16,q17,q18,q19⟩,ka.to [(0,.slice (some ⟨rb,(o+(k/64)),none⟩) (n-(k/64)) (c-(k/64))),(2,.slice none 0 0),(4,.int .i64 (k%64:Nat)),(15,.int .i64 (n-(k/64):Nat)),(16,.int .i64 ((i+1):Nat))] kR⟩
  omega
 have phb13:=oT hb13
 refine lB 30 hb13 ?_
 refine lN (cIT (cRa ⟨[],none⟩ 13 mixed ?_))
 replace hmo:=hmo.trans ((Up.drew (Up.refl hs.g)).m _)
 replace hs:=hs.drew
 refine aV 0 31 (.slice (some ⟨rb,(o+(k/64)),none⟩) (n-(k/64)) (c-(k/64))) ?_
 refine aV 1 32 (.int .i64 (i:Nat)) ?_
 refine aXo 2 33 rb (o+(k/64)) (n-(k/64)) (c-(k/64)) 1 (i:Nat) i ((o+(k/64))+i) ?_
 refine aQ 3 34 0 ((l).set ((o+(k/64))+i) (((l).getD ((o+(k/64))+i) 0:Nat)/2^(k%64):Nat)) u64c 1 0 ((o+(k/64))+i) (.int .u64 (((l).set ((o+(k/64))+i) (((l).getD ((o+(k/64))+i) 0:Nat)/2^(k%64):Nat)).getD ((o+(k/64))+i) 0:Nat)) hs oM ?_
 refine aV 4 35 (.slice (some ⟨rb,(o+(k/64)),none⟩) (n-(k/64)) (c-(k/64))) ?_
 refine aV 5 36 (.int .i64 (i:Nat)) ?_
 refine aV 6 37 (.int .i64 (i+1:Nat)) ?_ (hv:=fun _=>rint (n:=IntKind.wrap .i64 ((i:Nat)+1)) kR ((wr64 oM oM).trans oM))
 refine aXo 7 38 rb (o+(k/64)) (n-(k/64)) (c-(k/64)) 1 (i+1:Nat) (i+1) ((o+(k/64))+(i+1)) ?_
 refine aQ 8 39 0 ((l).set ((o+(k/64))+i) (((l).getD ((o+(k/64))+i) 0:Nat)/2^(k%64):Nat)) u64c 1 0 ((o+(k/64))+(i+1)) (.int .u64 (((l).set ((o+(k/64))+i) (((l).getD ((o+(k/64))+i) 0:Nat)/2^(k%64):Nat)).getD ((o+(k/64))+(i+1)) 0:Nat)) hs oM ?_
 refine aV 9 40 (.int .i64 (k%64:Nat)) ?_
 refine aV 10 41 (.int .i64 (64-(k%64):Nat)) ?_ (hv:=fun _=>rint (n:=IntKind.wrap .i64 (64-(k%64:Nat))) kR ((wr64 oM oM).trans oM))
 refine aV 11 42 (.int .u64 ((((l).set ((o+(k/64))+i) (((l).getD ((o+(k/64))+i) 0:Nat)/2^(k%64):Nat)).getD ((o+(k/64))+(i+1)) 0:Nat)*2^(64-(k%64))%18446744073709551616:Nat)) ?_ (hv:=fun _=>opShlN (t:=50) (u:=3) (x:=.tmp 39) (y:=.tmp 41) (ky:=.i64) (a:=(((l).set ((o+(k/64))+i) (((l).getD ((o+(k/64))+i) 0:Nat)/2^(k%64):Nat)).getD ((o+(k/64))+(i+1)) 0:Nat)) (n:=(64-(k%64))) kR kR kR _)
 have hXn:X.getD (i+1) 0=l.getD (o+k/64+(i+1)) 0:=(hun (i+1) oM oM).symm
 obtain ⟨hS1,hS2,hS3⟩:=shr_word (x:=l.getD (o+k/64+i) 0) (y:=l.getD (o+k/64+(i+1)) 0) (p:=k%64) oM hxi
 have hgs:=getD_set' (l:=l) (k:=o+k/64+i) (j:=o+k/64+i) (x:=l.getD (o+k/64+i) 0/2^(k%64)) oM
 rw[if_pos rfl] at hgs
 have hgn:=getD_set' (l:=l) (k:=o+k/64+i) (j:=o+k/64+(i+1)) (x:=l.getD (o+k/64+i) 0/2^(k%64)) oM
 rw[if_neg oM] at hgn
 refine aV 12 43 (.int .u64 (l.getD (o+k/64+i) 0/2^(k%64)+l.getD (o+k/64+(i+1)) 0*2^(64-k%64)%18446744073709551616:Nat)) ?_ (hv:=fun _=>rint (opOr (t:=50) (u:=50) (x:=.tmp 34) (y:=.tmp 42) (a:=(((l).set ((o+(k/64))+i) (((l).getD ((o+(k/64))+i) 0:Nat)/2^(k%64):Nat)).getD ((o+(k/64))+i) 0:Nat)) (b:=((((l).set ((o+(k/64))+i) (((l).getD ((o+(k/64))+i) 0:Nat)/2^(k%64):Nat)).getD ((o+(k/64))+(i+1)) 0:Nat)*2^(64-(k%64))%18446744073709551616:Nat)) kR kR kR oM oM _) (by rw[hgs,hgn,hS1]))
 refine tXo 13 44 rb (o+(k/64)) (n-(k/64)) (c-(k/64)) 1 (i:Nat) i ((o+(k/64))+i) ?_
 refine tWu 14 0 ((l).set ((o+(k/64))+i) (((l).getD ((o+(k/64))+i) 0:Nat)/2^(k%64):Nat)) u64c 1 ((o+(k/64))+i) (l.getD (o+k/64+i) 0/2^(k%64)+l.getD (o+k/64+(i+1)) 0*2^(64-k%64)%18446744073709551616:Nat) hs oM (fun w20 pu hs=>?_)
 replace hmo:=hmo.put pu (List.mem_singleton.2 rfl) hs.g
 have hl21:(((l).set ((o+(k/64))+i) (((l).getD ((o+(k/64))+i) 0:Nat)/2^(k%64):Nat)).set ((o+(k/64))+i) (l.getD (o+k/64+i) 0/2^(k%64)+l.getD (o+k/64+(i+1)) 0*2^(64-k%64)%18446744073709551616:Nat)).length=l0.length:=by rw[List.length_set];exact hl12
 replace hs:=hs.to [⟨rb,50,(((l).set ((o+(k/64))+i) (((l).getD ((o+(k/64))+i) 0:Nat)/2^(k%64):Nat)).set ((o+(k/64))+i) (l.getD (o+k/64+i) 0/2^(k%64)+l.getD (o+k/64+(i+1)) 0*2^(64-k%64)%18446744073709551616:Nat)).flatMap u64c⟩] []
 refine tN (CG.listed (lIn 45 ((i:Nat)+1) (i+1) ?_))
 refine lL hs [.m 16 45] (lD ?_)
 intro a_ ka
 have q22:(i+1)≤n-k/64:=by omega
 have q23:(((l).set ((o+(k/64))+i) (((l).getD ((o+(k/64))+i) 0:Nat)/2^(k%64):Nat)).set ((o+(k/64))+i) (l.getD (o+k/64+i) 0/2^(k%64)+l.getD (o+k/64+(i+1)) 0*2^(64-k%64)%18446744073709551616:Nat)).length=l0.length:=hl21
 have q24:Wd (((l).set ((o+(k/64))+i) (((l).getD ((o+(k/64))+i) 0:Nat)/2^(k%64):Nat)).set ((o+(k/64))+i) (l.getD (o+k/64+i) 0/2^(k%64)+l.getD (o+k/64+(i+1)) 0*2^(64-k%64)%18446744073709551616:Nat)):=((hW.set _ oM).set _ hS2)
 have q25:2^(k%64)*bval 18446744073709551616 ((win (((l).set ((o+(k/64))+i) (((l).getD ((o+(k/64))+i) 0:Nat)/2^(k%64):Nat)).set ((o+(k/64))+i) (l.getD (o+k/64+i) 0/2^(k%64)+l.getD (o+k/64+(i+1)) 0*2^(64-k%64)%18446744073709551616:Nat)) (o+k/64) (n-k/64)).take (i+1))+0=bval 18446744073709551616 (X.take (i+1))+18446744073709551616^(i+1)*(X.getD (i+1) 0%2^(k%64)):=(by rw[List.set_set,win_set oM];exact dn_step (by rw[win_len oM];omega) inv (by rw[hXi,hXn];exact hS3))
 have q26:∀ j,(i+1)≤j→j<n-k/64→(((l).set ((o+(k/64))+i) (((l).getD ((o+(k/64))+i) 0:Nat)/2^(k%64):Nat)).set ((o+(k/64))+i) (l.getD (o+k/64+i) 0/2^(k%64)+l.getD (o+k/64+(i+1)) 0*2^(64-k%64)%18446744073709551616:Nat)).getD (o+k/64+j) 0=X.getD j 0:=(by rw[List.set_set];exact keep_set oM hun)
 have q27:UpM [rb] w h w20 h5:=hmo
 refine ⟨_,_,?_,⟨i+1,((l).set ((o+(k/64))+i) (((l).getD ((o+(k/64))+i) 0:Nat)/2^(k%64):Nat)).set ((o+(k/64))+i) (l.getD (o+k/64+i) 0/2^(k%64)+l.getD (o+k/64+(i+1)) 0*2^(64-k%64)%18446744073709551616:Nat),h5,rfl,rfl,hs.to _ _,q22,q23,q24,q25,q26,q27⟩,ka.to [(0,.slice (some ⟨rb,(o+(k/64)),none⟩) (n-(k/64)) (c-(k/64))),(2,.slice none 0 0),(4,.int .i64 (k%64:Nat)),(15,.int .i64 (n-(k/64):Nat)),(16,.int .i64 ((i+1):Nat))] kR⟩
 omega
theorem wSubt (rb:Nat)(l0:List Nat)(o n c x:Nat)(hl0:l0.length≤1000000000)(hon:o+n≤l0.length)(hnc:n≤c)(hW0:Wd l0)(hwin:win l0 o n=wds x)(D:Option Addr)(d y m:Nat)(hm:(wds y).length=m)(hmd:m≤d)(hyx:y≤x)(w:World)(h:Hp)(g:G w h)(ho:Own w rb 50 (l0.flatMap u64c))(hj:h[rb]?=some junk)(hD:SlO 1 u64c 0 h D (wds y)) :
    Calls Tryz.prog 135 #[.slice (some ⟨rb,o,none⟩) n c,.slice D m d] w (RetM rb w h fun v w' _=>∃ z:List Nat,∃ o' n' c':Nat,v=.slice (some ⟨rb,o',none⟩) n' c'∧z.length=l0.length∧Wd z∧o'+n'≤z.length∧n'≤c'∧win z o' n'=wds (x-y)∧Own w' rb 50 (z.flatMap u64c)):=by
 have hmo:UpM [rb] w h w h:=UpM.refl g
 obtain ⟨wz,hz,hs⟩:=SS.at_ g ho hj
 have hl0_:l0.length=l0.length:=rfl
 replace hs:=(hs.a_SlO hD)
 have hwn:n=(wds x).length:=by rw[←hwin,win_len hon]
 have hlm:=wds_len_mono hyx
 refine go Tryz.func135 [(0,.slice (some ⟨rb,o,none⟩) n c),(1,.slice D m d)] rfl ?_
 refine cSL (lL hs [.v 4 (.slice none 0 0)] (lNS (lL hs [.v 5 (.int .u64 0)] (lN (CG.seq (cSL (lL hs [.m 8 0,.v 9 (.int .i64 (n:Nat)),.v 10 (.int .i64 0)] (lN (CG.block (cTo [(0,.slice (some ⟨rb,o,none⟩) n c),(1,.slice D m d),(4,.slice none 0 0),(9,.int .i64 (n:Nat)),(10,.int .i64 0),(5,.int .u64 0)] ?_))))))))))
 refine CG.loop (fun μ_ Γ w_=>∃ (i:Nat) (l:List Nat) (bo:Nat) (h_:Hp),μ_=n-i∧Γ=[(0,.slice (some ⟨rb,o,none⟩) n c),(1,.slice D m d),(4,.slice none 0 0),(9,.int .i64 (n:Nat)),(10,.int .i64 (i:Nat)),(5,.int .u64 (bo:Nat))]∧SS wz hz w_ h_ [⟨rb,50,(l).flatMap u64c⟩] [] [fun h_=>SlO 1 u64c 0 h_ D (wds y)]∧(i≤n)∧(l.length=l0.length)∧(Wd l)∧(bo≤1)∧(bval 18446744073709551616 (win l o n)+bval 18446744073709551616 ((wds y).take i)=x+18446744073709551616^i*bo)∧(UpM [rb] w h w_ h_)) _ ⟨0,l0,0,h,rfl,rfl,hs.to _ _,Nat.zero_le _,rfl,hW0,oM,(by have hx_:bval 18446744073709551616 (wds x)=x:=wval_wds x;rw[hwin,hx_];simp[bval]),hmo⟩ ?_
 rintro _ _ w1 ⟨i,l,bo,h2,hm3,rfl,hs,hi,hll,hW,hbo,inv,hmo⟩
 have hlk:=hW.get (o+i)
 have hyk:=(Wd.wds y).get i
 have hwg:=win_get (l:=l) (o:=o) (n:=n) (j:=i)
 refine cSL ?_
 cases hb4:(decide (((i:Nat):Int)<((n:Nat):Int)))
 ·
  have phb4:=oF hb4
  refine lB 11 hb4 ?_
  refine lN (CG.seq (cIF (CG.exit ?_)))
  show CG _ _ _ _ _ _ _ _
  refine cSL (lL hs [.m 35 0] (lClu 36 0 hs (fun _ g_ f_ sg_=>wTrim (some ⟨rb,o,none⟩) c (win l o n) n (win_len oM) (by rw[win_len oM];omega) (by rw[win_len oM];omega) _ _ g_ (SlO.win (f:=u64c) (d:=0) (b:=rb) (l:=l) (fun _=>rfl) sg_ o n)) ?_))
  rintro _ w5 h6 u7 hs rfl
  replace hmo:=hmo.trans (u7.m _)
  refine lL hs [.m 4 36] (lN (CG.ret ?_))
  have hiN:i=n:=by omega
  have hZl:(win l o n).length=n:=win_len oM
  rw[List.take_of_length_le (show (wds y).length≤i by omega),hiN] at inv
  have hZW:Wd (win l o n):=hW.win _ _
  have hE:wval (win l o n)=x-y:=sub_end hZW (by rw[hZl];have hb_:bval 18446744073709551616 (wds y)=y:=wval_wds y;rw[hb_] at inv;exact inv) oM hbo
  have hwm:=wds_of hZW
  rw[hE,hZl] at hwm
  have htl:=tl_le (win l o n) n
  exact hs.retM hmo [] (.slice (some ⟨rb,o,none⟩) (tl (win l o n) n) c) ⟨l,o,_,_,rfl,hll,hW,by omega,by omega,(by rw[hwm];exact (win_take htl).symm),hs.own 0⟩
 have phb4:=oT hb4
 refine lB 11 hb4 ?_
 refine lN (CG.seq (cIT (CG.skipN (CG.seq (CG.block (cSL (lL hs [.m 12 10,.m 6 12] (lNS (lL hs [.v 7 (.int .u64 0)] (lN (CG.seq (cSL (lL hs [.m 13 6,.m 14 1,.v 15 (.int .i64 (m:Nat))] ?_)))))))))))))
 cases hb8:(decide (((i:Nat):Int)<((m:Nat):Int)))
 ·
  have phb8:=oF hb8
  refine lB 16 hb8 ?_
  refine lN (cIF (CG.skipN (CG.listed (lL hs [.m 22 0,.m 23 6,.m 24 0,.m 25 6] (lXo 26 rb o n c 1 (i:Nat) i (o+i) ?_)))))
  refine lQ 27 0 l u64c 1 0 (o+i) (.int .u64 ((l).getD (o+i) 0:Nat)) hs oM ?_
  refine lL hs [.m 28 7,.m 29 5] ?_
  obtain ⟨s9,c10,he11,hl12,hm13,hr14⟩:=bSub64 ((l).getD (o+i) 0) 0 bo wM wM oM
  refine lV 30 (.tuple #[.int .u64 (s9:Nat),.int .u64 (c10:Nat)]) ?_ (hr:=opExt kR (hr14 _))
  refine lL hs [.m 21 30,.v 31 (.int .u64 (s9:Nat)),.v 32 (.int .u64 (c10:Nat))] (lXo 33 rb o n c 1 (i:Nat) i (o+i) ?_)
  refine lWu 0 l u64c 1 (o+i) s9 hs oM (fun w15 pu hs=>?_)
  replace hmo:=hmo.put pu (List.mem_singleton.2 rfl) hs.g
  have hl16:((l).set (o+i) s9).length=l0.length:=by rw[List.length_set];exact hll
  replace hs:=hs.to [⟨rb,50,((l).set (o+i) s9).flatMap u64c⟩] []
  refine lL hs [.m 5 32] (lN (CG.listed (lIn 34 ((i:Nat)+1) (i+1) ?_)))
  refine lL hs [.m 10 34] (lD ?_)
  intro a_ ka
  have q17:(i+1)≤n:=by omega
  have q18:((l).set (o+i) s9).length=l0.length:=hl16
  have q19:Wd ((l).set (o+i) s9):=(hW.set _ oM)
  have q20:c10≤1:=oM
  have q21:bval 18446744073709551616 (win ((l).set (o+i) s9) o n)+bval 18446744073709551616 ((wds y).take (i+1))=x+18446744073709551616^(i+1)*c10:=(by rw[win_set oM];exact sub_step (by rw[win_len oM];omega) inv (by rw[hwg oM];first|omega|(have hy0:=getD_out (l:=wds y) (k:=i) oM;omega)))
  have q22:UpM [rb] w h w15 h2:=hmo
  refine ⟨_,_,?_,⟨i+1,(l).set (o+i) s9,c10,h2,rfl,rfl,hs.to _ _,q17,q18,q19,q20,q21,q22⟩,ka.to [(0,.slice (some ⟨rb,o,none⟩) n c),(1,.slice D m d),(4,.slice none 0 0),(9,.int .i64 (n:Nat)),(10,.int .i64 ((i+1):Nat)),(5,.int .u64 (c10:Nat))] kR⟩
  omega
 have phb8:=oT hb8
 refine lB 16 hb8 ?_
 refine lN (cIT (CG.listed (lL hs [.m 17 1,.m 18 6] (lX 19 D m d 1 (i:Nat) i ((hs.f.1).ok oM) ?_))))
 refine lH 20 (.int .u64 ((wds y).getD i 0:Nat)) hs ((hs.f.1).el i oM) ?_
 refine lL hs [.m 7 20] (lN (CG.listed (lL hs [.m 22 0,.m 23 6,.m 24 0,.m 25 6] (lXo 26 rb o n c 1 (i:Nat) i (o+i) ?_))))
 refine lQ 27 0 l u64c 1 0 (o+i) (.int .u64 ((l).getD (o+i) 0:Nat)) hs oM ?_
 refine lL hs [.m 28 7,.m 29 5] ?_
 obtain ⟨s23,c24,he25,hl26,hm27,hr28⟩:=bSub64 ((l).getD (o+i) 0) ((wds y).getD i 0) bo wM wM oM
 refine lV 30 (.tuple #[.int .u64 (s23:Nat),.int .u64 (c24:Nat)]) ?_ (hr:=opExt kR (hr28 _))
 refine lL hs [.m 21 30,.v 31 (.int .u64 (s23:Nat)),.v 32 (.int .u64 (c24:Nat))] (lXo 33 rb o n c 1 (i:Nat) i (o+i) ?_)
 refine lWu 0 l u64c 1 (o+i) s23 hs oM (fun w29 pu hs=>?_)
 replace hmo:=hmo.put pu (List.mem_singleton.2 rfl) hs.g
 have hl30:((l).set (o+i) s23).length=l0.length:=by rw[List.length_set];exact hll
 replace hs:=hs.to [⟨rb,50,((l).set (o+i) s23).flatMap u64c⟩] []
 refine lL hs [.m 5 32] (lN (CG.listed (lIn 34 ((i:Nat)+1) (i+1) ?_)))
 refine lL hs [.m 10 34] (lD ?_)
 intro a_ ka
 have q31:(i+1)≤n:=by omega
 have q32:((l).set (o+i) s23).length=l0.length:=hl30
 have q33:Wd ((l).set (o+i) s23):=(hW.set _ oM)
 have q34:c24≤1:=oM
 have q35:bval 18446744073709551616 (win ((l).set (o+i) s23) o n)+bval 18446744073709551616 ((wds y).take (i+1))=x+18446744073709551616^(i+1)*c24:=(by rw[win_set oM];exact sub_step (by rw[win_len oM];omega) inv (by rw[hwg oM];first|omega|(have hy0:=getD_out (l:=wds y) (k:=i) oM;omega)))
 have q36:UpM [rb] w h w29 h2:=hmo
 refine ⟨_,_,?_,⟨i+1,(l).set (o+i) s23,c24,h2,rfl,rfl,hs.to _ _,q31,q32,q33,q34,q35,q36⟩,ka.to [(0,.slice (some ⟨rb,o,none⟩) n c),(1,.slice D m d),(4,.slice none 0 0),(9,.int .i64 (n:Nat)),(10,.int .i64 ((i+1):Nat)),(5,.int .u64 (c24:Nat))] kR⟩
 omega
theorem Tz.le {n k m:Nat}(t:Tz n k m):m≤n:=by rw[t.1];exact Nat.le_mul_of_pos_left m (Nat.two_pow_pos k)
theorem cmpN_cases (a b:Nat):(cmpN a b=0∧a=b)∨(cmpN a b = -1∧a<b)∨(cmpN a b=1∧b<a):=by
  rcases Nat.lt_trichotomy a b with h|h|h
  · exact .inr (.inl ⟨cmpN_lt h,h⟩)
  · exact .inl ⟨cmpN_eq h,h⟩
  · exact .inr (.inr ⟨cmpN_gt h,h⟩)
theorem wCompareW (A:Option Addr)(c:Nat)(D:Option Addr)(d:Nat)(x y n m_:Nat)(lx ly:List Nat)(ex:lx=wds x)(ey:ly=wds y)(hn:lx.length=n)(hm_:ly.length=m_)(hlx:n≤1000000000)(hly:m_≤1000000000)(w:World)(h:Hp)(g:G w h)(hA:SlO 1 u64c 0 h A lx)(hD:SlO 1 u64c 0 h D ly) :
    Calls Tryz.prog 134 #[.slice A n c,.slice D m_ d] w (Ret w h fun v _=>v=.int .i64 (cmpN x y)):=by
  subst ex ey;exact wCompare A c D d x y n m_ hn hm_ oM oM w h g hA hD
theorem wNumW (A:Option Addr)(c:Nat)(l:List Nat)(n x:Nat)(ex:l=wds x)(hn:l.length=n)(hl:n≤1000000000)(w:World)(h:Hp)(g:G w h)(hA:SlO 1 u64c 0 h A l):Calls Tryz.prog 136 #[.slice A n c] w (Ret w h fun v _=>v=nv x):=by
  subst ex
  have:=wNumber A c (wds x) n hn (Wd.wds x) oM w h g hA
  rwa [wval_wds] at this
theorem wSubtW (rb:Nat)(l0:List Nat)(o n c x:Nat)(hl0:l0.length≤1000000000)(hon:o+n≤l0.length)(hnc:n≤c)(hW0:Wd l0)(hwin:win l0 o n=wds x)(D:Option Addr)(d y m:Nat)(ly:List Nat)(ey:ly=wds y)(hm:ly.length=m)(hmd:m≤d)(hyx:y≤x)(w:World)(h:Hp)(g:G w h)(ho:Own w rb 50 (l0.flatMap u64c))(hj:h[rb]?=some junk)(hD:SlO 1 u64c 0 h D ly) :
    Calls Tryz.prog 135 #[.slice (some ⟨rb,o,none⟩) n c,.slice D m d] w (RetM rb w h fun v w' _=>∃ z:List Nat,∃ o' n' c':Nat,v=.slice (some ⟨rb,o',none⟩) n' c'∧z.length=l0.length∧Wd z∧o'+n'≤z.length∧n'≤c'∧win z o' n'=wds (x-y)∧Own w' rb 50 (z.flatMap u64c)):=by
  subst ey;exact wSubt rb l0 o n c x hl0 hon hnc hW0 hwin D d y m hm hmd hyx w h g ho hj hD
theorem wBinary (x y:Nat)(hx:0<x)(hy:0<y)(hlx:(wds x).length≤1000000000)(hly:(wds y).length≤1000000000)(w:World)(h:Hp)(g:G w h)(tb:Tab h) :
    Calls Tryz.prog 106 #[nv x,nv y] w (Ret w h fun v _=>v=nv (Nat.gcd x y)):=by
 have hs:=SS.start g
 replace hs:=(hs.add (K:=fun h_=>Tab h_) tb)
 have hpx:=hx
 have hpy:=hy
 refine go Tryz.func106 [(0,nv x),(1,nv y)] rfl ?_
 refine cSL (lA 2 52 (nc x) hs (fun b1 w2 h3 hs=>?_))
 refine lA 3 52 (nc y) hs (fun b4 w5 h6 hs=>?_)
 refine lA 4 52 ([.int .u64 0,.string ⟨#[]⟩]) hs (fun b7 w8 h9 hs=>?_)
 refine lN (CG.seq ?_)
 obtain ⟨K_,hK_⟩:∃ K_,K_=w8.heap.size:=⟨_,rfl⟩
 have hk_b7:b7<K_:=by rw[hK_];exact zblk hs 0
 have hk_b4:b4<K_:=by rw[hK_];exact zblk hs 1
 have hk_b1:b1<K_:=by rw[hK_];exact zblk hs 2
 refine cRa ⟨[],some (K_,[])⟩ 0 mixed ?_
 have hszK:=hs.g.size
 replace hs:=hs.drew
 have hKl:=Nat.le_of_eq hK_
 refine zO 0 10 [(2,0,2)] (nv x) rfl hKl hs (fun p hp=>by obtain rfl:=List.mem_singleton.1 hp;exact hk_b1) ?_
 refine zO 2 12 [(1,0,2)] (nv y) rfl hKl hs (fun p hp=>by obtain rfl:=List.mem_singleton.1 hp;exact hk_b4) ?_
 refine zCu 1 11 (wWords x oM oM _ _ hs.g) rfl hKl ?_
 rintro _ w10 h11 u12 hKl ⟨bwx,rfl,hlox,hbcx,hslx⟩
 obtain ⟨h13,hs,-,-⟩:=hs.take u12 hlox hbcx
 replace hs:=hs.to [⟨bwx,50,(wds x).flatMap u64c⟩,⟨b7,52,[.int .u64 0,.string ⟨#[]⟩]⟩,⟨b4,52,nc y⟩,⟨b1,52,nc x⟩] []
 refine zCu 3 13 (wWords y oM oM _ _ hs.g) rfl hKl ?_
 rintro _ w14 h15 u16 hKl ⟨bwy,rfl,hloy,hbcy,hsly⟩
 obtain ⟨h17,hs,-,-⟩:=hs.take u16 hloy hbcy
 replace hs:=hs.to [⟨bwy,50,(wds y).flatMap u64c⟩,⟨bwx,50,(wds x).flatMap u64c⟩,⟨b7,52,[.int .u64 0,.string ⟨#[]⟩]⟩,⟨b4,52,nc y⟩,⟨b1,52,nc x⟩] []
 refine zV 4 5 (.slice (some ⟨bwx,0,none⟩) ((wds x).length) ((wds x).length)) ?_
 refine zV 5 6 (.slice (some ⟨bwy,0,none⟩) ((wds y).length) ((wds y).length)) ?_
 refine tNS ?_
 refine lL hs [.m 14 5] (lCl 15 1 hs (fun _ g_ f_ sg_=>wZeros (some ⟨bwx,0,none⟩) (wds x).length (wds x) (wds x).length rfl (Wd.wds x) (by rw[wval_wds];omega) oM _ _ g_ (f_.1) (SlO.of_flat (sz:=1) (f:=u64c) (d:=0) (b:=bwx) (o:=0) (l:=wds x) (fun _=>rfl) sg_)) ?_)
 rintro _ w19 h20 hs ⟨kx,mx,rfl,htx,hkx⟩
 rw[wval_wds] at htx
 refine lL hs [.m 16 6] (lCl 17 0 hs (fun _ g_ f_ sg_=>wZeros (some ⟨bwy,0,none⟩) (wds y).length (wds y) (wds y).length rfl (Wd.wds y) (by rw[wval_wds];omega) oM _ _ g_ (f_.1) (SlO.of_flat (sz:=1) (f:=u64c) (d:=0) (b:=bwy) (o:=0) (l:=wds y) (fun _=>rfl) sg_)) ?_)
 rintro _ w22 h23 hs ⟨ky,my,rfl,hty,hky⟩
 rw[wval_wds] at hty
 refine lV 18 (.int .i64 (min kx ky:Nat)) ?_ (hr:=rint (n:=if ((ky:Nat):Int)<((kx:Nat):Int) then ((ky:Nat):Int) else ((kx:Nat):Int)) kR (by split<;>omega))
 refine lL hs [.m 7 18] (lNS (lL hs [.m 19 5] (lCm 20 (wDown bwx (wds x) 0 ((wds x).length) ((wds x).length) x hpx oM oM (Nat.le_refl _) (Wd.wds x) (win_all _ _ (Nat.le_refl _)) _ _ hs.g (hs.own 1) (hs.jk 1) (hs.f.1)) ?_)))
 rintro _ w25 h26 u27 ⟨z24,o24,n24,c24,rfl,hzl24,hzW24,hzo24,hzc24,⟨kk24,mm24,htt24,hzw24⟩,hO24⟩
 replace hs:=(hs.stepM 1 u27 hO24).to [⟨bwy,50,(wds y).flatMap u64c⟩,⟨bwx,50,(z24).flatMap u64c⟩,⟨b7,52,[.int .u64 0,.string ⟨#[]⟩]⟩,⟨b4,52,nc y⟩,⟨b1,52,nc x⟩] []
 have hmp24:=htt24.odd_pos
 have hle24:=htt24.le
 refine lL hs [.m 21 6] (lCm 22 (wDown bwy (wds y) 0 ((wds y).length) ((wds y).length) y hpy oM oM (Nat.le_refl _) (Wd.wds y) (win_all _ _ (Nat.le_refl _)) _ _ hs.g (hs.own 0) (hs.jk 0) (hs.f.1)) ?_)
 rintro _ w29 h30 u31 ⟨z28,o28,n28,c28,rfl,hzl28,hzW28,hzo28,hzc28,⟨kk28,mm28,htt28,hzw28⟩,hO28⟩
 replace hs:=(hs.stepM 0 u31 hO28).to [⟨bwy,50,(z28).flatMap u64c⟩,⟨bwx,50,(z24).flatMap u64c⟩,⟨b7,52,[.int .u64 0,.string ⟨#[]⟩]⟩,⟨b4,52,nc y⟩,⟨b1,52,nc x⟩] []
 have hmp28:=htt28.odd_pos
 have hle28:=htt28.le
 refine lL hs [.m 5 20,.m 6 22] (lN (CG.seq (CG.block (cTo [(4,.pointer (some ⟨b7,0,none⟩)),(7,.int .i64 (min kx ky:Nat)),(5,.slice (some ⟨bwx,o24,none⟩) n24 c24),(6,.slice (some ⟨bwy,o28,none⟩) n28 c28)] ?_))))
 refine CG.loop (fun μ_ Γ w_=>∃ (pv:Nat) (l1:List Nat) (o1:Nat) (n1:Nat) (c1:Nat) (pw:Nat) (l2:List Nat) (o2:Nat) (n2:Nat) (c2:Nat) (x1:Nat) (y1:Nat) (h_:Hp),μ_=x1+y1∧Γ=[(4,.pointer (some ⟨b7,0,none⟩)),(7,.int .i64 (min kx ky:Nat)),(5,.slice (some ⟨pv,o1,none⟩) n1 c1),(6,.slice (some ⟨pw,o2,none⟩) n2 c2)]∧SS w h w_ h_ [⟨pw,50,(l2).flatMap u64c⟩,⟨pv,50,(l1).flatMap u64c⟩,⟨b7,52,[.int .u64 0,.string ⟨#[]⟩]⟩,⟨b4,52,nc y⟩,⟨b1,52,nc x⟩] [] [fun h_=>Tab h_]∧(l1.length≤1000000000)∧(Wd l1)∧(o1+n1≤l1.length)∧(n1≤c1)∧(win l1 o1 n1=wds x1)∧(0<x1)∧(l2.length≤1000000000)∧(Wd l2)∧(o2+n2≤l2.length)∧(n2≤c2)∧(win l2 o2 n2=wds y1)∧(0<y1)∧(x1%2=1)∧(y1%2=1)∧(Nat.gcd x1 y1*2^min kx ky=Nat.gcd x y)) _ ⟨bwx,z24,o24,n24,c24,bwy,z28,o28,n28,c28,mm24,mm28,h30,rfl,rfl,hs.to _ _,oM,hzW24,hzo24,hzc24,hzw24,hmp24,oM,hzW28,hzo28,hzc28,hzw28,hmp28,htt24.2,htt28.2,(by rw[(htx.uniq htt24).1,(hty.uniq htt28).1];exact (gcd_twos htt24 htt28).symm)⟩ ?_
 rintro _ _ w32 ⟨pv,l1,o1,n1,c1,pw,l2,o2,n2,c2,x1,y1,h33,hm34,rfl,hs,hl1,hW1,hon1,hnc1,hwin1,hx1,hl2,hW2,hon2,hnc2,hwin2,hy1,hxo,hyo,hG⟩
 have hcmp:=cmpN_cases x1 y1
 have hwl1:=congrArg List.length hwin1
 rw[win_len hon1] at hwl1
 have hwl2:=congrArg List.length hwin2
 rw[win_len hon2] at hwl2
 refine CG.block (cSL (lL hs [.m 23 5,.m 24 6] (lCl2 25 1 0 hs (fun _ g_ f_ sg_ sh_=>wCompareW (some ⟨pv,o1,none⟩) c1 (some ⟨pw,o2,none⟩) c2 x1 y1 n1 n2 (win l1 o1 n1) (win l2 o2 n2) hwin1 hwin2 (win_len hon1) (win_len hon2) oM oM _ _ g_ (SlO.win (f:=u64c) (d:=0) (b:=pv) (l:=l1) (fun _=>rfl) sg_ o1 n1) (SlO.win (f:=u64c) (d:=0) (b:=pw) (l:=l2) (fun _=>rfl) sh_ o2 n2)) ?_)))
 rintro _ w36 h37 hs rfl
 refine lL hs [.m 8 25] (lN (CG.seq (cSL (lL hs [.m 26 8] ?_))))
 cases hb39:((cmpN x1 y1:Int) == (0:Int))
 ·
  have phb39:=neOfBeq hb39
  refine lB 27 hb39 ?_
  refine lN (cIF (CG.skipN (CG.seq (cSL (lL hs [.m 28 8] ?_)))))
  cases hb40:(decide ((cmpN x1 y1:Int)<(0:Int)))
  ·
   have phb40:=oF hb40
   refine lB 29 hb40 ?_
   refine lN (cIF (CG.skipN (CG.listed (lL hs [.m 32 5,.m 33 6] (lCml 34 1 0 hs (fun _ g_ f_ hj_ sh_=>wSubtW pv l1 o1 n1 c1 x1 oM hon1 hnc1 hW1 hwin1 (some ⟨pw,o2,none⟩) c2 y1 n2 (win l2 o2 n2) hwin2 (win_len hon2) hnc2 oM _ _ g_ (hs.own 1) hj_ (SlO.win (f:=u64c) (d:=0) (b:=pw) (l:=l2) (fun _=>rfl) sh_ o2 n2)) ?_)))))
   rintro _ w42 h43 u44 ⟨s41,so41,sn41,sc41,rfl,hsl41,hsW41,hso41,hsc41,hsw41,hS41⟩
   replace hs:=(hs.stepM 1 u44 hS41).to [⟨pw,50,(l2).flatMap u64c⟩,⟨pv,50,(s41).flatMap u64c⟩,⟨b7,52,[.int .u64 0,.string ⟨#[]⟩]⟩,⟨b4,52,nc y⟩,⟨b1,52,nc x⟩] []
   refine lCm 35 (wDown pv s41 so41 sn41 sc41 (x1-y1) oM oM hso41 hsc41 hsW41 hsw41 _ _ hs.g (hs.own 1) (hs.jk 1) (hs.f.1)) ?_
   rintro _ w46 h47 u48 ⟨z45,o45,n45,c45,rfl,hzl45,hzW45,hzo45,hzc45,⟨kk45,mm45,htt45,hzw45⟩,hO45⟩
   replace hs:=(hs.stepM 1 u48 hO45).to [⟨pw,50,(l2).flatMap u64c⟩,⟨pv,50,(z45).flatMap u64c⟩,⟨b7,52,[.int .u64 0,.string ⟨#[]⟩]⟩,⟨b4,52,nc y⟩,⟨b1,52,nc x⟩] []
   have hmp45:=htt45.odd_pos
   have hle45:=htt45.le
   refine lL hs [.m 5 35] (lD ?_)
   intro a_ ka
   have q49:z45.length≤1000000000:=oM
   have q50:Wd z45:=hzW45
   have q51:o45+n45≤z45.length:=hzo45
   have q52:n45≤c45:=hzc45
   have q53:win z45 o45 n45=wds mm45:=hzw45
   have q54:0<mm45:=hmp45
   have q55:l2.length≤1000000000:=oM
   have q56:Wd l2:=hW2
   have q57:o2+n2≤l2.length:=hon2
   have q58:n2≤c2:=hnc2
   have q59:win l2 o2 n2=wds y1:=hwin2
   have q60:0<y1:=hy1
   have q61:mm45%2=1:=htt45.2
   have q62:y1%2=1:=hyo
   have q63:Nat.gcd mm45 y1*2^min kx ky=Nat.gcd x y:=(by rw[gcd_sub oM hyo htt45];exact hG)
   refine ⟨_,_,?_,⟨pv,z45,o45,n45,c45,pw,l2,o2,n2,c2,mm45,y1,h47,rfl,rfl,hs.to _ _,q49,q50,q51,q52,q53,q54,q55,q56,q57,q58,q59,q60,q61,q62,q63⟩,ka.to [(4,.pointer (some ⟨b7,0,none⟩)),(7,.int .i64 (min kx ky:Nat)),(5,.slice (some ⟨pv,o45,none⟩) n45 c45),(6,.slice (some ⟨pw,o2,none⟩) n2 c2)] kR⟩
   omega
  have phb40:=oT hb40
  refine lB 29 hb40 ?_
  refine lN (cIT (CG.listed (lL hs [.m 30 6,.m 31 5,.m 5 30,.m 6 31] (lN (CG.listed (lL hs [.m 32 5,.m 33 6] (lCml 34 0 1 hs (fun _ g_ f_ hj_ sh_=>wSubtW pw l2 o2 n2 c2 y1 oM hon2 hnc2 hW2 hwin2 (some ⟨pv,o1,none⟩) c1 x1 n1 (win l1 o1 n1) hwin1 (win_len hon1) hnc1 oM _ _ g_ (hs.own 0) hj_ (SlO.win (f:=u64c) (d:=0) (b:=pv) (l:=l1) (fun _=>rfl) sh_ o1 n1)) ?_)))))))
  rintro _ w65 h66 u67 ⟨s64,so64,sn64,sc64,rfl,hsl64,hsW64,hso64,hsc64,hsw64,hS64⟩
  replace hs:=(hs.stepM 0 u67 hS64).to [⟨pw,50,(s64).flatMap u64c⟩,⟨pv,50,(l1).flatMap u64c⟩,⟨b7,52,[.int .u64 0,.string ⟨#[]⟩]⟩,⟨b4,52,nc y⟩,⟨b1,52,nc x⟩] []
  refine lCm 35 (wDown pw s64 so64 sn64 sc64 (y1-x1) oM oM hso64 hsc64 hsW64 hsw64 _ _ hs.g (hs.own 0) (hs.jk 0) (hs.f.1)) ?_
  rintro _ w69 h70 u71 ⟨z68,o68,n68,c68,rfl,hzl68,hzW68,hzo68,hzc68,⟨kk68,mm68,htt68,hzw68⟩,hO68⟩
  replace hs:=(hs.stepM 0 u71 hO68).to [⟨pw,50,(z68).flatMap u64c⟩,⟨pv,50,(l1).flatMap u64c⟩,⟨b7,52,[.int .u64 0,.string ⟨#[]⟩]⟩,⟨b4,52,nc y⟩,⟨b1,52,nc x⟩] []
  have hmp68:=htt68.odd_pos
  have hle68:=htt68.le
  refine lL hs [.m 5 35] (lD ?_)
  replace hs:=hs.perm (List.Perm.swap _ _ _)
  intro a_ ka
  have q72:z68.length≤1000000000:=oM
  have q73:Wd z68:=hzW68
  have q74:o68+n68≤z68.length:=hzo68
  have q75:n68≤c68:=hzc68
  have q76:win z68 o68 n68=wds mm68:=hzw68
  have q77:0<mm68:=hmp68
  have q78:l1.length≤1000000000:=oM
  have q79:Wd l1:=hW1
  have q80:o1+n1≤l1.length:=hon1
  have q81:n1≤c1:=hnc1
  have q82:win l1 o1 n1=wds x1:=hwin1
  have q83:0<x1:=hx1
  have q84:mm68%2=1:=htt68.2
  have q85:x1%2=1:=hxo
  have q86:Nat.gcd mm68 x1*2^min kx ky=Nat.gcd x y:=(by rw[gcd_sub oM hxo htt68,Nat.gcd_comm];exact hG)
  refine ⟨_,_,?_,⟨pw,z68,o68,n68,c68,pv,l1,o1,n1,c1,mm68,x1,h70,rfl,rfl,hs.to _ _,q72,q73,q74,q75,q76,q77,q78,q79,q80,q81,q82,q83,q84,q85,q86⟩,ka.to [(4,.pointer (some ⟨b7,0,none⟩)),(7,.int .i64 (min kx ky:Nat)),(5,.slice (some ⟨pw,o68,none⟩) n68 c68),(6,.slice (some ⟨pv,o1,none⟩) n1 c1)] kR⟩
  omega
 have phb39:=eq_of_beq hb39
 refine lB 27 hb39 ?_
 refine lN (cIT (CG.exit ?_))
 show CG _ _ _ _ _ _ _ _
 refine cSL (lL hs [.m 36 5] (lCl 37 1 hs (fun _ g_ f_ sg_=>wNumW (some ⟨pv,o1,none⟩) c1 (win l1 o1 n1) n1 x1 hwin1 (win_len hon1) oM _ _ g_ (SlO.win (f:=u64c) (d:=0) (b:=pv) (l:=l1) (fun _=>rfl) sg_ o1 n1)) ?_))
 rintro _ w88 h89 hs rfl
 refine lA 9 52 ([.int .u64 0,.string ⟨#[]⟩]) hs (fun b91 w92 h93 hs=>?_)
 refine lP 0 0 (nc x1) hs (fun w94 hs=>?_)
 refine lN (CG.seq (CG.block (cTo [(4,.pointer (some ⟨b7,0,none⟩)),(9,.pointer (some ⟨b91,0,none⟩)),(7,.int .i64 (min kx ky:Nat))] ?_)))
 refine CG.loop (fun μ_ Γ w_=>∃ (z:Int) (a:Nat) (h_:Hp),μ_=z.toNat∧Γ=[(4,.pointer (some ⟨b7,0,none⟩)),(9,.pointer (some ⟨b91,0,none⟩)),(7,.int .i64 z)]∧SS w h w_ h_ [⟨b91,52,nc a⟩,⟨pw,50,(l2).flatMap u64c⟩,⟨pv,50,(l1).flatMap u64c⟩,⟨b7,52,[.int .u64 0,.string ⟨#[]⟩]⟩,⟨b4,52,nc y⟩,⟨b1,52,nc x⟩] [] [fun h_=>Tab h_]∧(z≤64000000000)∧(a*2^z.toNat=Nat.gcd x y)) _ ⟨((min kx ky:Nat):Int),x1,h93,rfl,rfl,hs.to _ _,oM,(by rw[show x1=y1 by omega,Nat.gcd_self] at hG;rw[show x1=y1 by omega];rw[show (((min kx ky:Nat):Int)).toNat=min kx ky by omega];exact hG)⟩ ?_
 rintro _ _ w95 ⟨z,a,h96,hm97,rfl,hs,hz,ha⟩
 refine CG.seq (cSL (lL hs [.m 38 7] ?_))
 cases hb98:(decide ((0:Int)<(z:Int)))
 ·
  have phb98:=oF hb98
  refine lB 39 hb98 ?_
  refine lN (cIF (CG.exit ?_))
  show CG _ _ _ _ _ _ _ _
  refine cSL (lL hs [.o 46 (nv a) 0 0 2] (lP 3 0 (nc a) hs (fun w99 hs=>?_)))
  exact lN (CG.ret (hs.ret [(3,0,2)] (nv a) (by rw[show z.toNat=0 by omega,Nat.pow_zero,Nat.mul_one] at ha;rw[ha])))
 have phb98:=oT hb98
 refine lB 39 hb98 ?_
 refine lN (cIT (CG.skipN (CG.seq (CG.block (CG.listed (lL hs [.o 42 (nv a) 0 0 2,.m 43 7] (lV 44 (.int .i64 (min z.toNat 65536:Nat)) ?_ (hr:=rint (n:=if (65536:Int)<z then (65536:Int) else z) kR (by split<;>omega)))))))))
 refine lC 45 hs (nShift a (min z.toNat 65536) (by have:=wds_len_mono (show a≤x by exact Nat.le_trans (Nat.le_mul_of_pos_right a (Nat.two_pow_pos z.toNat)) (by rw[ha];exact Nat.gcd_le_left y hx));omega) oM _ _ hs.g) ?_
 rintro _ w100 h101 hs rfl
 refine lP 0 0 (nc (a*2^min z.toNat 65536)) hs (fun w102 hs=>?_)
 refine lN (CG.listed (lL hs [.m 40 7] (lI 41 (z-65536) ?_)))
 refine lL hs [.m 7 41] (lD ?_)
 intro a_ ka
 have q103:(z-65536)≤64000000000:=oM
 have q104:(a*2^min z.toNat 65536)*2^(z-65536).toNat=Nat.gcd x y:=(by rw[Nat.mul_assoc,←Nat.pow_add,show min z.toNat 65536+(z-65536).toNat=z.toNat by omega];exact ha)
 refine ⟨_,_,?_,⟨z-65536,a*2^min z.toNat 65536,h101,rfl,rfl,hs.to _ _,q103,q104⟩,ka.to [(4,.pointer (some ⟨b7,0,none⟩)),(9,.pointer (some ⟨b91,0,none⟩)),(7,.int .i64 (z-65536))] kR⟩
 omega
theorem nb_cases (n:Nat):(n=0∧nb n=0)∨(0<n∧0<nb n):=by
  rcases Nat.eq_zero_or_pos n with h|h
  · subst h;exact .inl ⟨rfl,rfl⟩
  · exact .inr ⟨h,(nb_spec h).2.2⟩
theorem gcd_mod_swap (x y:Nat):Nat.gcd y (x%y)=Nat.gcd x y:=by rw[Nat.gcd_comm y,←Nat.gcd_rec,Nat.gcd_comm]
theorem nSmall (n:Nat)(w:World)(h:Hp)(g:G w h):Calls Tryz.prog 104 #[nv n] w (Ret w h fun v _=>∃ s:Nat,∃ ok:Bool,v=.tuple #[.int .u64 (s:Nat),.bool ok]∧(ok=true→s=n∧n<18446744073709551616)):=by
  rcases Nat.lt_or_ge n 18446744073709551616 with hn|hn
  · refine (nSmallS n hn w h g).mono ?_
    rintro _ w' ⟨_,h',rfl,u,rfl⟩
    exact ⟨_,h',rfl,u,n,true,rfl,fun _=>⟨rfl,hn⟩⟩
  · refine (nSmallB n hn w h g).mono ?_
    rintro _ w' ⟨_,h',rfl,u,rfl⟩
    exact ⟨_,h',rfl,u,0,false,rfl,fun e=>by cases e⟩
theorem wGcd (a b:Int)(hla:(wds (iabs a)).length≤1000000000)(hlb:(wds (iabs b)).length≤1000000000)(w:World)(h:Hp)(g:G w h)(tb:Tab h) :
    Calls Tryz.prog 59 #[iv a,iv b] w (Ret w h fun v _=>v=nv (Nat.gcd (iabs a) (iabs b))):=by
 have hs:=SS.start g
 replace hs:=(hs.add (K:=fun h_=>Tab h_) tb)
 refine go Tryz.func59 [(0,iv a),(1,iv b)] rfl ?_
 refine cSL (lA 2 54 (ic a) hs (fun b1 w2 h3 hs=>?_))
 refine lA 3 54 (ic b) hs (fun b4 w5 h6 hs=>?_)
 refine lA 4 52 ([.int .u64 0,.string ⟨#[]⟩]) hs (fun b7 w8 h9 hs=>?_)
 refine lN (CG.seq ?_)
 have hsr:=hs
 refine cRz 6 [⟨4,5,.cells (List.toArray [.int .u64 0,.string ⟨#[]⟩]) 52 (0,0)⟩,⟨5,6,.cells (List.toArray [.int .u64 0,.string ⟨#[]⟩]) 52 (0,0)⟩] [] mixed hs (al_cons (alOk kR (fun _ _=>by kernel_rfl)) (al_cons (alOk kR (fun _ _=>by kernel_rfl)) al_nil)) ?_
 refine eV 0 14 (.pointer (some ⟨b1,1,none⟩)) ?_
 refine eO 1 15 [(2,1,2)] (nv (iabs a)) hs ?_
 refine eV 2 16 (.pointer (some ⟨b4,1,none⟩)) ?_
 refine eOz 3 17 [(1,1,2)] (nv (iabs b)) hsr hs ?_
 refine eD2z hsr hs 52 [.int .u64 0,.string ⟨#[]⟩] 52 [.int .u64 0,.string ⟨#[]⟩] (fun w10 h11 b12 b13 hz14 hz15 hs=>?_)
 refine tP 6 0 0 (nc (iabs a)) hs (fun w16 hs=>?_) (hz:=tlz_new hz14)
 refine tP 7 1 0 (nc (iabs b)) hs (fun w17 hs=>?_) (hz:=tlz_new hz15)
 refine tN (CG.seq (cSL (lL hs [.o 18 (nv (iabs a)) 0 0 2,.o 19 (nv (iabs b)) 1 0 2] (lC 20 hs (nCmp (iabs a) (iabs b) aM aM _ _ hs.g) ?_))))
 rintro _ w18 h19 hs rfl
 have hcm:=cmpN_cases (iabs a) (iabs b)
 cases hb20:(decide ((cmpN (iabs a) (iabs b):Int)<(0:Int)))
 ·
  have phb20:=oF hb20
  refine lB 21 hb20 ?_
  refine lN (cIF (CG.skipN (CG.seq (cSL ?_))))
  have hgc:Nat.gcd (iabs a) (iabs b)=Nat.gcd (iabs a) (iabs b):=by first|rfl|exact Nat.gcd_comm _ _
  refine lL hs [.o 24 (nv (iabs b)) 1 0 2] (lC 25 hs (nBits (iabs b) (by first|assumption|exact wds_len_le (Nat.le_of_lt (Nat.mod_lt _ oM)) aM) _ _ hs.g) ?_)
  rintro _ w21 h22 hs rfl
  have hnb4:=nb_cases (iabs b)
  cases hb23:(((nb (iabs b):Nat):Int) == (0:Int))
  ·
   have phb23:=neOfBeq hb23
   refine lB 26 hb23 ?_
   refine lN (cIF (CG.skipN (cSL (lL hs [.o 29 (nv (iabs a)) 0 0 2,.o 30 (nv (iabs b)) 1 0 2] (lC 31 hs (nDiv (iabs a) (iabs b) oM aM aM _ _ hs.g) ?_)))))
   rintro _ w24 h25 hs rfl
   have hmd:=Nat.mod_lt (iabs a) (show 0<(iabs b) by omega)
   refine lL hs [.m 28 31,.v 32 (nv ((iabs a)/(iabs b))),.v 33 (nv ((iabs a)%(iabs b))),.v 34 (.bool true)] (lA 7 52 ([.int .u64 0,.string ⟨#[]⟩]) hs (fun b26 w27 h28 hs=>?_))
   refine lA 8 52 ([.int .u64 0,.string ⟨#[]⟩]) hs (fun b29 w30 h31 hs=>?_)
   refine lP 1 0 (nc ((iabs a)/(iabs b))) hs (fun w32 hs=>?_)
   refine lP 0 0 (nc ((iabs a)%(iabs b))) hs (fun w33 hs=>?_)
   refine lL hs [.m 9 34] (lN (CG.seq ?_))
   have hsr:=hs
   refine cRz 2 [] [b12,b13] mixed hs al_nil ?_
   refine eO 0 35 [(3,0,2)] (nv (iabs b)) hs ?_
   refine eOz 1 36 [(0,0,2)] (nv ((iabs a)%(iabs b))) hsr hs ?_ (hM:=fun p hp=>by obtain rfl:=List.mem_singleton.1 hp;exact fun hm=>by rcases List.mem_cons.1 hm with e|hm;exact bx_ne hs.st (i:=0) (j:=2) kR kR kR e;rcases List.mem_cons.1 hm with e|hm;exact bx_ne hs.st (i:=0) (j:=3) kR kR kR e;cases hm)
   refine eD0 hs (fun w34 h35 hs=>?_)
   refine tP 2 2 0 (nc (iabs b)) hs (fun w36 hs=>?_) (hz:=tlz_mem (List.mem_cons_self))
   refine tP 3 3 0 (nc ((iabs a)%(iabs b))) hs (fun w37 hs=>?_) (hz:=tlz_mem (List.mem_cons_of_mem _<|List.mem_cons_self))
   refine tN (CG.seq (cSL ?_))
   have hg2:Nat.gcd (iabs b) ((iabs a)%(iabs b))=Nat.gcd (iabs a) (iabs b):=by rw[←hgc];exact gcd_mod_swap _ _
   refine lL hs [.o 37 (nv ((iabs a)%(iabs b))) 3 0 2] (lC 38 hs (nBits ((iabs a)%(iabs b)) (by first|assumption|exact wds_len_le (Nat.le_of_lt (Nat.mod_lt _ oM)) aM) _ _ hs.g) ?_)
   rintro _ w38 h39 hs rfl
   have hnb8:=nb_cases ((iabs a)%(iabs b))
   cases hb40:(((nb ((iabs a)%(iabs b)):Nat):Int) == (0:Int))
   ·
    have phb40:=neOfBeq hb40
    refine lB 39 hb40 ?_
    refine lN (cIF (CG.skipN (CG.seq (cSL (lL hs [.o 42 (nv (iabs b)) 2 0 2] (lC 43 hs (nSmall (iabs b) _ _ hs.g) ?_))))))
    rintro _ w41 h42 hs ⟨sp,ok,rfl,hok⟩
    refine lL hs [.m 41 43,.v 44 (.int .u64 (sp:Nat)),.v 45 (.bool ok),.m 10 44,.m 11 45] (lNS (lL hs [.m 46 11] (lN (cTo [(4,.pointer (some ⟨b7,0,none⟩)),(6,.pointer (some ⟨b13,0,none⟩)),(5,.pointer (some ⟨b12,0,none⟩)),(10,.int .u64 (sp:Nat)),(46,.bool ok)] ?_))))
    cases hb43:(ok)
    ·
     try rw[hb43] at hs
     try rw[hb43]
     refine cIF (CG.skipN (cSL (lL hs [.o 60 (nv (iabs b)) 2 0 2,.o 61 (nv ((iabs a)%(iabs b))) 3 0 2] (lC 62 hs (wBinary (iabs b) ((iabs a)%(iabs b)) oM oM (by first|assumption|exact wds_len_le (Nat.le_of_lt (Nat.mod_lt _ oM)) aM) (by first|assumption|exact wds_len_le (Nat.le_of_lt (Nat.mod_lt _ oM)) aM) _ _ hs.g (hs.f.1)) ?_))))
     rintro _ w44 h45 hs rfl
     refine lP 4 0 (nc (Nat.gcd (iabs b) ((iabs a)%(iabs b)))) hs (fun w46 hs=>?_)
     exact lN (CG.ret (hs.ret [(4,0,2)] (nv (Nat.gcd (iabs b) ((iabs a)%(iabs b)))) (congrArg nv hg2)))
    try rw[hb43] at hs
    try rw[hb43]
    refine cIT (cSL (lL hs [.o 48 (nv ((iabs a)%(iabs b))) 3 0 2] (lC 49 hs (nSmallS ((iabs a)%(iabs b)) (by have hok_:=hok aM;omega) _ _ hs.g) ?_)))
    rintro _ w47 h48 hs rfl
    refine lL hs [.m 47 49,.v 50 (.int .u64 (((iabs a)%(iabs b)):Nat)),.v 51 (.bool true),.m 12 50,.m 13 51] (lN (CG.seq (CG.block (cTo [(4,.pointer (some ⟨b7,0,none⟩)),(6,.pointer (some ⟨b13,0,none⟩)),(5,.pointer (some ⟨b12,0,none⟩)),(10,.int .u64 (sp:Nat)),(12,.int .u64 (((iabs a)%(iabs b)):Nat))] ?_))))
    refine CG.loop (fun μ_ Γ w_=>∃ (p:Nat) (q:Nat) (h_:Hp),μ_=q∧Γ=[(4,.pointer (some ⟨b7,0,none⟩)),(6,.pointer (some ⟨b13,0,none⟩)),(5,.pointer (some ⟨b12,0,none⟩)),(10,.int .u64 (p:Nat)),(12,.int .u64 (q:Nat))]∧SS w h w_ h_ [⟨b29,52,nc ((iabs a)%(iabs b))⟩,⟨b26,52,nc ((iabs a)/(iabs b))⟩,⟨b12,52,nc (iabs b)⟩,⟨b13,52,nc ((iabs a)%(iabs b))⟩,⟨b7,52,[.int .u64 0,.string ⟨#[]⟩]⟩,⟨b4,54,ic b⟩,⟨b1,54,ic a⟩] [] [fun h_=>Tab h_]∧(p<18446744073709551616)∧(q<18446744073709551616)∧(Nat.gcd p q=Nat.gcd (iabs a) (iabs b))) _ ⟨sp,((iabs a)%(iabs b)),h48,rfl,rfl,hs.to _ _,(by have hok_:=hok aM;omega),(by have hok_:=hok aM;omega),(by rw[(hok aM).1];exact hg2)⟩ ?_
    rintro _ _ w49 ⟨p,q,h50,hm51,rfl,hs,hp,hq,hG⟩
    refine CG.seq (cSL (lL hs [.m 52 12] ?_))
    cases hb52:(decide ((0:Int)<((q:Nat):Int)))
    ·
     have phb52:=oF hb52
     refine lB 53 hb52 ?_
     refine lN (cIF (CG.exit ?_))
     show CG _ _ _ _ _ _ _ _
     refine cSL (lL hs [.m 58 10] (lC 59 hs (nOf p hp _ _ hs.g) ?_))
     rintro _ w53 h54 hs rfl
     refine lP 4 0 (nc p) hs (fun w55 hs=>?_)
     exact lN (CG.ret (hs.ret [(4,0,2)] (nv p) (congrArg nv (by rw[←hG,show q=0 by omega,Nat.gcd_zero_right]))))
    have phb52:=oT hb52
    refine lB 53 hb52 ?_
    refine lN (cIT (CG.skipN (CG.block (cR 4 [] mixed hs al_nil ?_))))
    refine eV 0 54 (.int .u64 (q:Nat)) ?_
    refine eV 1 55 (.int .u64 (p:Nat)) ?_
    refine eV 2 56 (.int .u64 (q:Nat)) ?_
    refine eV 3 57 (.int .u64 (p%q:Nat)) ?_ (hv:=fun _=>rint (opRem (t:=50) (u:=50) (x:=.tmp 55) (y:=.tmp 56) (k:=.u64) (a:=((p:Nat):Int)) (b:=((q:Nat):Int)) kR kR kR oM _) (tmodNat p q))
    refine eD0 hs (fun w56 h57 hs=>?_)
    refine tV 4 10 (.int .u64 (q:Nat)) ?_
    refine tV 5 12 (.int .u64 (p%q:Nat)) ?_
    refine tD ?_
    intro a_ ka
    have q58:q<18446744073709551616:=hq
    have q59:(p%q)<18446744073709551616:=(by have:=Nat.mod_lt p (show 0<q by omega);omega)
    have q60:Nat.gcd q (p%q)=Nat.gcd (iabs a) (iabs b):=(by rw[gcd_mod_swap];exact hG)
    refine ⟨_,_,?_,⟨q,p%q,h57,rfl,rfl,hs.to _ _,q58,q59,q60⟩,ka.to [(4,.pointer (some ⟨b7,0,none⟩)),(6,.pointer (some ⟨b13,0,none⟩)),(5,.pointer (some ⟨b12,0,none⟩)),(10,.int .u64 (q:Nat)),(12,.int .u64 ((p%q):Nat))] kR⟩
    have hmq_:=Nat.mod_lt p (show 0<q by omega)
    omega
   have phb40:=eq_of_beq hb40
   refine lB 39 hb40 ?_
   refine lN (cIT (cSL (lL hs [.o 40 (nv (iabs b)) 2 0 2] (lP 4 0 (nc (iabs b)) hs (fun w61 hs=>?_)))))
   exact lN (CG.ret (hs.ret [(4,0,2)] (nv (iabs b)) (congrArg nv (by rw[←hg2,show ((iabs a)%(iabs b))=0 by omega,Nat.gcd_zero_right]))))
  have phb23:=eq_of_beq hb23
  refine lB 26 hb23 ?_
  refine lN (cIT (cSL (lL hs [.o 27 (nv (iabs a)) 0 0 2] (lP 2 0 (nc (iabs a)) hs (fun w62 hs=>?_)))))
  exact lN (CG.ret (hs.ret [(2,0,2)] (nv (iabs a)) (congrArg nv (by rw[←hgc,show (iabs b)=0 by omega,Nat.gcd_zero_right]))))
 have phb20:=oT hb20
 refine lB 21 hb20 ?_
 refine lN (cIT (CG.listed (lL hs [.o 22 (nv (iabs b)) 1 0 2,.o 23 (nv (iabs a)) 0 0 2] (lP 0 0 (nc (iabs b)) hs (fun w63 hs=>?_)))))
 refine lP 1 0 (nc (iabs a)) hs (fun w64 hs=>?_)
 refine lN (CG.seq (cSL ?_))
 have hgc:Nat.gcd (iabs b) (iabs a)=Nat.gcd (iabs a) (iabs b):=by first|rfl|exact Nat.gcd_comm _ _
 refine lL hs [.o 24 (nv (iabs a)) 1 0 2] (lC 25 hs (nBits (iabs a) (by first|assumption|exact wds_len_le (Nat.le_of_lt (Nat.mod_lt _ oM)) aM) _ _ hs.g) ?_)
 rintro _ w65 h66 hs rfl
 have hnb4:=nb_cases (iabs a)
 cases hb67:(((nb (iabs a):Nat):Int) == (0:Int))
 ·
  have phb67:=neOfBeq hb67
  refine lB 26 hb67 ?_
  refine lN (cIF (CG.skipN (cSL (lL hs [.o 29 (nv (iabs b)) 0 0 2,.o 30 (nv (iabs a)) 1 0 2] (lC 31 hs (nDiv (iabs b) (iabs a) oM aM aM _ _ hs.g) ?_)))))
  rintro _ w68 h69 hs rfl
  have hmd:=Nat.mod_lt (iabs b) (show 0<(iabs a) by omega)
  refine lL hs [.m 28 31,.v 32 (nv ((iabs b)/(iabs a))),.v 33 (nv ((iabs b)%(iabs a))),.v 34 (.bool true)] (lA 7 52 ([.int .u64 0,.string ⟨#[]⟩]) hs (fun b70 w71 h72 hs=>?_))
  refine lA 8 52 ([.int .u64 0,.string ⟨#[]⟩]) hs (fun b73 w74 h75 hs=>?_)
  refine lP 1 0 (nc ((iabs b)/(iabs a))) hs (fun w76 hs=>?_)
  refine lP 0 0 (nc ((iabs b)%(iabs a))) hs (fun w77 hs=>?_)
  refine lL hs [.m 9 34] (lN (CG.seq ?_))
  have hsr:=hs
  refine cRz 2 [] [b12,b13] mixed hs al_nil ?_
  refine eO 0 35 [(3,0,2)] (nv (iabs a)) hs ?_
  refine eOz 1 36 [(0,0,2)] (nv ((iabs b)%(iabs a))) hsr hs ?_ (hM:=fun p hp=>by obtain rfl:=List.mem_singleton.1 hp;exact fun hm=>by rcases List.mem_cons.1 hm with e|hm;exact bx_ne hs.st (i:=0) (j:=2) kR kR kR e;rcases List.mem_cons.1 hm with e|hm;exact bx_ne hs.st (i:=0) (j:=3) kR kR kR e;cases hm)
  refine eD0 hs (fun w78 h79 hs=>?_)
  refine tP 2 2 0 (nc (iabs a)) hs (fun w80 hs=>?_) (hz:=tlz_mem (List.mem_cons_self))
  refine tP 3 3 0 (nc ((iabs b)%(iabs a))) hs (fun w81 hs=>?_) (hz:=tlz_mem (List.mem_cons_of_mem _<|List.mem_cons_self))
  refine tN (CG.seq (cSL ?_))
  have hg2:Nat.gcd (iabs a) ((iabs b)%(iabs a))=Nat.gcd (iabs a) (iabs b):=by rw[←hgc];exact gcd_mod_swap _ _
  refine lL hs [.o 37 (nv ((iabs b)%(iabs a))) 3 0 2] (lC 38 hs (nBits ((iabs b)%(iabs a)) (by first|assumption|exact wds_len_le (Nat.le_of_lt (Nat.mod_lt _ oM)) aM) _ _ hs.g) ?_)
  rintro _ w82 h83 hs rfl
  have hnb8:=nb_cases ((iabs b)%(iabs a))
  cases hb84:(((nb ((iabs b)%(iabs a)):Nat):Int) == (0:Int))
  ·
   have phb84:=neOfBeq hb84
   refine lB 39 hb84 ?_
   refine lN (cIF (CG.skipN (CG.seq (cSL (lL hs [.o 42 (nv (iabs a)) 2 0 2] (lC 43 hs (nSmall (iabs a) _ _ hs.g) ?_))))))
   rintro _ w85 h86 hs ⟨sp,ok,rfl,hok⟩
   refine lL hs [.m 41 43,.v 44 (.int .u64 (sp:Nat)),.v 45 (.bool ok),.m 10 44,.m 11 45] (lN (cTo [(4,.pointer (some ⟨b7,0,none⟩)),(6,.pointer (some ⟨b13,0,none⟩)),(5,.pointer (some ⟨b12,0,none⟩)),(10,.int .u64 (sp:Nat)),(11,.bool ok)] ?_))
   refine cSL (lL hs [.m 46 11] (lN ?_))
   cases hb87:(ok)
   ·
    try rw[hb87] at hs
    try rw[hb87]
    refine cIF (CG.skipN (cSL (lL hs [.o 60 (nv (iabs a)) 2 0 2,.o 61 (nv ((iabs b)%(iabs a))) 3 0 2] (lC 62 hs (wBinary (iabs a) ((iabs b)%(iabs a)) oM oM (by first|assumption|exact wds_len_le (Nat.le_of_lt (Nat.mod_lt _ oM)) aM) (by first|assumption|exact wds_len_le (Nat.le_of_lt (Nat.mod_lt _ oM)) aM) _ _ hs.g (hs.f.1)) ?_))))
    rintro _ w88 h89 hs rfl
    refine lP 4 0 (nc (Nat.gcd (iabs a) ((iabs b)%(iabs a)))) hs (fun w90 hs=>?_)
    exact lN (CG.ret (hs.ret [(4,0,2)] (nv (Nat.gcd (iabs a) ((iabs b)%(iabs a)))) (congrArg nv hg2)))
   try rw[hb87] at hs
   try rw[hb87]
   refine cIT (cSL (lL hs [.o 48 (nv ((iabs b)%(iabs a))) 3 0 2] (lC 49 hs (nSmallS ((iabs b)%(iabs a)) (by have hok_:=hok aM;omega) _ _ hs.g) ?_)))
   rintro _ w91 h92 hs rfl
   refine lL hs [.m 47 49,.v 50 (.int .u64 (((iabs b)%(iabs a)):Nat)),.v 51 (.bool true),.m 12 50,.m 13 51] (lN (CG.seq (CG.block (cTo [(4,.pointer (some ⟨b7,0,none⟩)),(6,.pointer (some ⟨b13,0,none⟩)),(5,.pointer (some ⟨b12,0,none⟩)),(10,.int .u64 (sp:Nat)),(12,.int .u64 (((iabs b)%(iabs a)):Nat))] ?_))))
   refine CG.loop (fun μ_ Γ w_=>∃ (p:Nat) (q:Nat) (h_:Hp),μ_=q∧Γ=[(4,.pointer (some ⟨b7,0,none⟩)),(6,.pointer (some ⟨b13,0,none⟩)),(5,.pointer (some ⟨b12,0,none⟩)),(10,.int .u64 (p:Nat)),(12,.int .u64 (q:Nat))]∧SS w h w_ h_ [⟨b73,52,nc ((iabs b)%(iabs a))⟩,⟨b70,52,nc ((iabs b)/(iabs a))⟩,⟨b12,52,nc (iabs a)⟩,⟨b13,52,nc ((iabs b)%(iabs a))⟩,⟨b7,52,[.int .u64 0,.string ⟨#[]⟩]⟩,⟨b4,54,ic b⟩,⟨b1,54,ic a⟩] [] [fun h_=>Tab h_]∧(p<18446744073709551616)∧(q<18446744073709551616)∧(Nat.gcd p q=Nat.gcd (iabs a) (iabs b))) _ ⟨sp,((iabs b)%(iabs a)),h92,rfl,rfl,hs.to _ _,(by have hok_:=hok aM;omega),(by have hok_:=hok aM;omega),(by rw[(hok aM).1];exact hg2)⟩ ?_
   rintro _ _ w93 ⟨p,q,h94,hm95,rfl,hs,hp,hq,hG⟩
   refine CG.seq (cSL (lL hs [.m 52 12] ?_))
   cases hb96:(decide ((0:Int)<((q:Nat):Int)))
   ·
    have phb96:=oF hb96
    refine lB 53 hb96 ?_
    refine lN (cIF (CG.exit ?_))
    show CG _ _ _ _ _ _ _ _
    refine cSL (lL hs [.m 58 10] (lC 59 hs (nOf p hp _ _ hs.g) ?_))
    rintro _ w97 h98 hs rfl
    refine lP 4 0 (nc p) hs (fun w99 hs=>?_)
    exact lN (CG.ret (hs.ret [(4,0,2)] (nv p) (congrArg nv (by rw[←hG,show q=0 by omega,Nat.gcd_zero_right]))))
   have phb96:=oT hb96
   refine lB 53 hb96 ?_
   refine lN (cIT (CG.skipN (CG.block (cR 4 [] mixed hs al_nil ?_))))
   refine eV 0 54 (.int .u64 (q:Nat)) ?_
   refine eV 1 55 (.int .u64 (p:Nat)) ?_
   refine eV 2 56 (.int .u64 (q:Nat)) ?_
   refine eV 3 57 (.int .u64 (p%q:Nat)) ?_ (hv:=fun _=>rint (opRem (t:=50) (u:=50) (x:=.tmp 55) (y:=.tmp 56) (k:=.u64) (a:=((p:Nat):Int)) (b:=((q:Nat):Int)) kR kR kR oM _) (tmodNat p q))
   refine eD0 hs (fun w100 h101 hs=>?_)
   refine tV 4 10 (.int .u64 (q:Nat)) ?_
   refine tV 5 12 (.int .u64 (p%q:Nat)) ?_
   refine tD ?_
   intro a_ ka
   have q102:q<18446744073709551616:=hq
   have q103:(p%q)<18446744073709551616:=(by have:=Nat.mod_lt p (show 0<q by omega);omega)
   have q104:Nat.gcd q (p%q)=Nat.gcd (iabs a) (iabs b):=(by rw[gcd_mod_swap];exact hG)
   refine ⟨_,_,?_,⟨q,p%q,h101,rfl,rfl,hs.to _ _,q102,q103,q104⟩,ka.to [(4,.pointer (some ⟨b7,0,none⟩)),(6,.pointer (some ⟨b13,0,none⟩)),(5,.pointer (some ⟨b12,0,none⟩)),(10,.int .u64 (q:Nat)),(12,.int .u64 ((p%q):Nat))] kR⟩
   have hmq_:=Nat.mod_lt p (show 0<q by omega)
   omega
  have phb84:=eq_of_beq hb84
  refine lB 39 hb84 ?_
  refine lN (cIT (cSL (lL hs [.o 40 (nv (iabs a)) 2 0 2] (lP 4 0 (nc (iabs a)) hs (fun w105 hs=>?_)))))
  exact lN (CG.ret (hs.ret [(4,0,2)] (nv (iabs a)) (congrArg nv (by rw[←hg2,show ((iabs b)%(iabs a))=0 by omega,Nat.gcd_zero_right]))))
 have phb67:=eq_of_beq hb67
 refine lB 26 hb67 ?_
 refine lN (cIT (cSL (lL hs [.o 27 (nv (iabs b)) 0 0 2] (lP 2 0 (nc (iabs b)) hs (fun w106 hs=>?_)))))
 exact lN (CG.ret (hs.ret [(2,0,2)] (nv (iabs b)) (congrArg nv (by rw[←hgc,show (iabs a)=0 by omega,Nat.gcd_zero_right]))))
theorem sgn_part (z:Int)(b:Nat)(hd:(b:Int)∣z):sgn (decide (z.sign<0)) (iabs z/b)=z/b:=by
  obtain ⟨k,rfl⟩:=hd
  rcases Nat.eq_zero_or_pos b with hb|hb
  · subst hb;simp[sgn,iabs]
  have e1:iabs ((b:Int)*k)/b=k.natAbs:=by
    unfold iabs
    rw[Int.natAbs_mul,Int.natAbs_natCast,Nat.mul_div_cancel_left _ hb]
  have e2:((b:Int)*k)/b=k:=Int.mul_ediv_cancel_left _ oM
  have e3:((b:Int)*k).sign=k.sign:=by rw[Int.sign_mul,Int.sign_natCast_of_ne_zero oM,Int.one_mul]
  rw[e1,e2,e3]
  unfold sgn
  rcases Int.lt_trichotomy k 0 with h|h|h
  · rw[Int.sign_eq_neg_one_of_neg h];simp;omega
  · subst h;simp
  · rw[Int.sign_eq_one_of_pos h];simp;omega
theorem rat_add (a b:Rat):∀ g h:Nat,∀ up:Int,g=Nat.gcd a.den b.den→up=a.num*((b.den/g:Nat):Int)+b.num*((a.den/g:Nat):Int)→h=Nat.gcd (iabs up) g →
    (a+b).num=up/h∧(a+b).den=(a.den/g)*(b.den/h)∧(h:Int)∣up∧h∣b.den∧0<h∧0<g:=by
  intro g h up hg hup hh
  have hgp:0<g:=by rw[hg];exact Nat.gcd_pos_of_pos_left _ a.den_pos
  have hhp:0<h:=by rw[hh];exact Nat.gcd_pos_of_pos_right _ hgp
  have hga:g∣a.den:=by rw[hg];exact Nat.gcd_dvd_left _ _
  have hgb:g∣b.den:=by rw[hg];exact Nat.gcd_dvd_right _ _
  have hhg:h∣g:=by rw[hh];exact Nat.gcd_dvd_right _ _
  have hhu:(h:Int)∣up:=by
    have h1:h∣up.natAbs:=by rw[hh];exact Nat.gcd_dvd_left _ _
    exact Int.dvd_trans (Int.natCast_dvd_natCast.2 h1) (Int.natAbs_dvd.2 (Int.dvd_refl _))
  have hhb:h∣b.den:=Nat.dvd_trans hhg hgb
  refine ⟨?_,?_,hhu,hhb,hhp,hgp⟩
  · show (Rat.add a b).num=_
    delta Rat.add
    dsimp only
    split
    · rename_i h1
      have g1:g=1:=by rw[hg];exact h1
      dsimp only
      clear h1 hg
      subst g1
      have hh1:h=1:=by rw[hh];simp
      rw[hh1,hup];simp
    · subst hg hup hh
      dsimp only[Rat.maybeNormalize]
      split
      · rename_i h1
        dsimp only
        unfold iabs
        rw[h1];simp
      · dsimp only
        rw[Int.divExact_eq_ediv]
        rfl
  · show (Rat.add a b).den=_
    delta Rat.add
    dsimp only
    split
    · rename_i h1
      have g1:g=1:=by rw[hg];exact h1
      dsimp only
      clear h1 hg
      subst g1
      have hh1:h=1:=by rw[hh];simp
      rw[hh1];simp
    · subst hg hup hh
      dsimp only[Rat.maybeNormalize]
      split
      · rename_i h1
        dsimp only
        unfold iabs
        rw[h1];simp
      · dsimp only
        rw[Nat.divExact_eq_div]
        unfold iabs at *
        rw[Nat.mul_div_assoc _ hhb]
theorem rat_mul (a b:Rat):∀ g h:Nat,g=Nat.gcd (iabs a.num) b.den→h=Nat.gcd (iabs b.num) a.den →
    (a*b).num=(a.num/g)*(b.num/h)∧(a*b).den=(a.den/h)*(b.den/g)∧(g:Int)∣a.num∧(h:Int)∣b.num∧0<g∧0<h:=by
  intro g h hg hh
  have hgp:0<g:=by rw[hg];exact Nat.gcd_pos_of_pos_right _ b.den_pos
  have hhp:0<h:=by rw[hh];exact Nat.gcd_pos_of_pos_right _ a.den_pos
  have d1:(g:Int)∣a.num:=by
    have h1:g∣a.num.natAbs:=by rw[hg];exact Nat.gcd_dvd_left _ _
    exact Int.dvd_trans (Int.natCast_dvd_natCast.2 h1) (Int.natAbs_dvd.2 (Int.dvd_refl _))
  have d2:(h:Int)∣b.num:=by
    have h1:h∣b.num.natAbs:=by rw[hh];exact Nat.gcd_dvd_left _ _
    exact Int.dvd_trans (Int.natCast_dvd_natCast.2 h1) (Int.natAbs_dvd.2 (Int.dvd_refl _))
  refine ⟨?_,?_,d1,d2,hgp,hhp⟩
  · show (Rat.mul a b).num=_
    delta Rat.mul
    dsimp only
    rw[Int.divExact_eq_ediv,Int.divExact_eq_ediv,hg,hh];rfl
  · show (Rat.mul a b).den=_
    delta Rat.mul
    dsimp only
    rw[Nat.divExact_eq_div,Nat.divExact_eq_div,hg,hh];rfl
theorem mkRat_parts (n:Int)(d:Nat)(hd:0<d):(mkRat n d).num=n/(Nat.gcd (iabs n) d:Nat)∧(mkRat n d).den=d/Nat.gcd (iabs n) d∧((Nat.gcd (iabs n) d:Nat):Int)∣n∧0<Nat.gcd (iabs n) d:=by
  have d1:((Nat.gcd (iabs n) d:Nat):Int)∣n:=by
    have h1:Nat.gcd (iabs n) d∣n.natAbs:=Nat.gcd_dvd_left _ _
    exact Int.dvd_trans (Int.natCast_dvd_natCast.2 h1) (Int.natAbs_dvd.2 (Int.dvd_refl _))
  unfold mkRat
  rw[dif_neg oM,Rat.normalize_eq]
  exact ⟨rfl,rfl,d1,Nat.gcd_pos_of_pos_right _ hd⟩
theorem rat_inv (b:Rat)(h:b.num≠0):(b⁻¹).num=sgn (decide (b.num.sign<0)) b.den∧(b⁻¹).den=iabs b.num:=by
  have e:b⁻¹=Rat.inv b:=rfl
  rw[e]
  delta Rat.inv
  split
  · rename_i h1
    rw[Int.sign_eq_neg_one_of_neg h1];simp[sgn,iabs]
  · split
    · rename_i h1
      rw[Int.sign_eq_one_of_pos h1];simp[sgn,iabs]
    · omega
def LQ (k:Nat)(q:Rat):Prop:=(wds (iabs q.num)).length≤k∧(wds q.den).length≤k
theorem wFromN (n:Nat)(w:World)(h:Hp)(g:G w h):Calls Tryz.prog 60 #[.bool false,nv n] w (Ret w h fun v _=>v=iv ((n:Nat):Int)):=wFromF n w h g
theorem wGcdE (x y:Int)(d:Nat)(hd:d=Nat.gcd (iabs x) (iabs y))(hla:(wds (iabs x)).length≤1000000000)(hlb:(wds (iabs y)).length≤1000000000)(w:World)(h:Hp)(g:G w h)(tb:Tab h):Calls Tryz.prog 59 #[iv x,iv y] w (Ret w h fun v _=>v=nv d):=by
  subst hd;exact wGcd x y hla hlb w h g tb
theorem nb_one {n:Nat}:nb n=1↔n=1:=by
  rcases Nat.eq_zero_or_pos n with h|h
  · subst h;simp[nb]
  · have h1:=nb_spec h
    constructor
    · intro e;rw[e] at h1;omega
    · intro e;subst e;rfl
theorem nb_zero_iff {n:Nat}:nb n=0↔n=0:=by
  rcases nb_cases n with ⟨h1,h2⟩|⟨h1,h2⟩<;>omega
theorem qd_one {q:Rat}(h:q.den=1):qd q=0:=by unfold qd;rw[if_pos h]
theorem qd_ne {q:Rat}(h:q.den≠1):qd q=q.den:=by unfold qd;rw[if_neg h]
theorem qd_zero {q:Rat}:qd q=0↔q.den=1:=by
  unfold qd
  have:=q.den_pos
  split<;>omega
theorem isw (q:Rat):(((nb (qd q):Nat):Int) == (0:Int))=decide (q.den=1):=by
  rw[Bool.eq_iff_iff]
  simp only[beq_iff_eq,decide_eq_true_eq]
  rw[←qd_zero,←nb_zero_iff]
  omega
theorem qv_lit {q:Rat}{z:Int}{d:Nat}(hz:q.num=z)(hd:qd q=d):Value.agg #[.bool (ineg z),.int .u64 (lo (iabs z)),.string (hi (iabs z)),.int .u64 (lo d),.string (hi d)]=qv q:=by subst hz hd;rfl
theorem LQ.qd {k:Nat}{q:Rat}(h:LQ k q):(wds (qd q)).length≤k:=by
  unfold Go.Proofs.YtnbjahmpennmkaaGreatDoor.qd
  split
  · exact Nat.zero_le _
  · exact h.2
theorem fPack (a:Rat)(ha:LQ 1000000000 a)(w:World)(h:Hp)(g:G w h) :
    Calls Tryz.prog 64 #[iv a.num,nv a.den] w (Ret w h fun v _=>v=qv a):=by
 have hs:=SS.start g
 obtain ⟨ha1,ha2⟩:=ha
 have hn1:=@nb_one a.den
 refine go Tryz.func64 [(0,iv a.num),(1,nv a.den)] rfl ?_
 refine cSL (lA 2 54 (ic a.num) hs (fun b1 w2 h3 hs=>?_))
 refine lA 3 52 (nc a.den) hs (fun b4 w5 h6 hs=>?_)
 refine lA 4 56 ([.bool false,.int .u64 0,.string ⟨#[]⟩,.int .u64 0,.string ⟨#[]⟩]) hs (fun b7 w8 h9 hs=>?_)
 refine lN (CG.seq (cSL (lL hs [.o 5 (nv a.den) 1 0 2] (lC 6 hs (nBits a.den aOM _ _ hs.g) ?_))))
 rintro _ w10 h11 hs rfl
 cases hb12:(((nb a.den:Nat):Int) == (1:Int))
 ·
  have phb12:=neOfBeq hb12
  refine lB 7 hb12 ?_
  refine lN (cIF (CG.skipN (cSL (lL hs [.o 10 (iv a.num) 2 0 3,.o 11 (nv a.den) 1 0 2,.v 12 (.agg #[.bool (ineg a.num),.int .u64 (lo (iabs a.num)),.string (hi (iabs a.num)),.int .u64 (lo a.den),.string (hi a.den)])] (lP 0 0 ([.bool (ineg a.num),.int .u64 (lo (iabs a.num)),.string (hi (iabs a.num)),.int .u64 (lo a.den),.string (hi a.den)]) hs (fun w13 hs=>?_))))))
  exact lN (CG.ret (hs.ret [(0,0,5)] (.agg #[.bool (ineg a.num),.int .u64 (lo (iabs a.num)),.string (hi (iabs a.num)),.int .u64 (lo a.den),.string (hi a.den)]) (qv_lit (q:=a) (d:=a.den) rfl (qd_ne oM))))
 have phb12:=eq_of_beq hb12
 refine lB 7 hb12 ?_
 refine lN (cIT (cSL (lL hs [.o 8 (iv a.num) 2 0 3,.v 9 (.agg #[.bool (ineg a.num),.int .u64 (lo (iabs a.num)),.string (hi (iabs a.num)),.int .u64 0,.string ⟨#[]⟩])] (lP 0 0 ([.bool (ineg a.num),.int .u64 (lo (iabs a.num)),.string (hi (iabs a.num)),.int .u64 0,.string ⟨#[]⟩]) hs (fun w14 hs=>?_)))))
 exact lN (CG.ret (hs.ret [(0,0,5)] (.agg #[.bool (ineg a.num),.int .u64 (lo (iabs a.num)),.string (hi (iabs a.num)),.int .u64 0,.string ⟨#[]⟩]) (qv_lit (q:=a) (d:=0) rfl (qd_one oM))))
theorem fPackE (q:Rat)(z:Int)(d:Nat)(hz:q.num=z)(hd:d=q.den)(hq:LQ 1000000000 q)(w:World)(h:Hp)(g:G w h):Calls Tryz.prog 64 #[iv z,nv d] w (Ret w h fun v _=>v=qv q):=by
  subst hz hd;exact fPack q hq w h g
theorem iabs_div_le (z:Int)(g:Nat)(hd:(g:Int)∣z):iabs (z/g)≤iabs z:=by
  unfold iabs
  rcases Nat.eq_zero_or_pos g with h|h
  · subst h;simp
  · obtain ⟨k,rfl⟩:=hd
    rw[Int.mul_ediv_cancel_left _ oM,Int.natAbs_mul,Int.natAbs_natCast]
    exact Nat.le_mul_of_pos_left _ h
theorem fOver (a b:Nat)(hb:0<b)(hla:(wds a).length≤1000000000)(hlb:(wds b).length≤1000000000)(w:World)(h:Hp)(g:G w h) :
    Calls Tryz.prog 62 #[nv a,nv b] w (Ret w h fun v _=>v=nv (a/b)):=by
 have hs:=SS.start g
 have hn1:=@nb_one b
 refine go Tryz.func62 [(0,nv a),(1,nv b)] rfl ?_
 refine cSL (lA 2 52 (nc a) hs (fun b1 w2 h3 hs=>?_))
 refine lA 3 52 (nc b) hs (fun b4 w5 h6 hs=>?_)
 refine lA 4 52 ([.int .u64 0,.string ⟨#[]⟩]) hs (fun b7 w8 h9 hs=>?_)
 refine lN (CG.seq (cSL (lL hs [.o 8 (nv b) 1 0 2] (lC 9 hs (nBits b aOM _ _ hs.g) ?_))))
 rintro _ w10 h11 hs rfl
 cases hb12:(((nb b:Nat):Int) == (1:Int))
 ·
  have phb12:=neOfBeq hb12
  refine lB 10 hb12 ?_
  refine lN (cIF (CG.skipN (cSL (lL hs [.o 13 (nv a) 2 0 2,.o 14 (nv b) 1 0 2] (lC 15 hs (nDiv a b oM aM aM _ _ hs.g) ?_)))))
  rintro _ w13 h14 hs rfl
  refine lL hs [.m 12 15,.v 16 (nv (a/b)),.v 17 (nv (a%b)),.v 18 (.bool true)] (lA 5 52 ([.int .u64 0,.string ⟨#[]⟩]) hs (fun b15 w16 h17 hs=>?_))
  refine lA 6 52 ([.int .u64 0,.string ⟨#[]⟩]) hs (fun b18 w19 h20 hs=>?_)
  refine lP 1 0 (nc (a/b)) hs (fun w21 hs=>?_)
  refine lP 0 0 (nc (a%b)) hs (fun w22 hs=>?_)
  refine lL hs [.m 7 18] (lNS (lL hs [.o 19 (nv (a/b)) 1 0 2] (lP 2 0 (nc (a/b)) hs (fun w23 hs=>?_))))
  exact lN (CG.ret (hs.ret [(2,0,2)] (nv (a/b)) rfl))
 have phb12:=eq_of_beq hb12
 refine lB 10 hb12 ?_
 refine lN (cIT (cSL (lL hs [.o 11 (nv a) 2 0 2] (lP 0 0 (nc a) hs (fun w24 hs=>?_)))))
 exact lN (CG.ret (hs.ret [(0,0,2)] (nv a) (by rw[show b=1 by omega,Nat.div_one])))
theorem fPart (z:Int)(b:Nat)(hb:0<b)(hd:(b:Int)∣z)(hla:(wds (iabs z)).length≤1000000000)(hlb:(wds b).length≤1000000000)(w:World)(h:Hp)(g:G w h) :
    Calls Tryz.prog 65 #[iv z,nv b] w (Ret w h fun v _=>v=iv (z/b)):=by
 have hs:=SS.start g
 have hdl:(wds (iabs z/b)).length≤1000000000:=wds_len_le (Nat.div_le_self _ _) hla
 refine go Tryz.func65 [(0,iv z),(1,nv b)] rfl ?_
 refine cSL (lA 2 54 (ic z) hs (fun b1 w2 h3 hs=>?_))
 refine lA 3 52 (nc b) hs (fun b4 w5 h6 hs=>?_)
 refine lA 4 54 ([.bool false,.int .u64 0,.string ⟨#[]⟩]) hs (fun b7 w8 h9 hs=>?_)
 refine lN (CG.seq (cR 8 [] mixed hs al_nil ?_))
 refine eO 0 5 [(2,0,3)] (iv z) hs ?_
 refine eO 3 8 [(2,0,3)] (iv z) hs ?_
 refine eO 5 10 [(1,0,2)] (nv b) hs ?_
 refine eC 1 6 hs (fun _ _ hs=>wSign z aOM _ _ hs.g) ?_
 rintro _ _ _ w10 h11 hs rfl
 refine eV 2 7 (.bool (decide (((z).sign:Int)<(0:Int)))) ?_
 refine eC 4 9 hs (fun _ _ hs=>wAbs z _ _ hs.g) ?_
 rintro _ _ _ w12 h13 hs rfl
 refine eC 6 11 hs (fun _ _ hs=>fOver (iabs z) b aM aOM aOM _ _ hs.g) ?_
 rintro _ _ _ w14 h15 hs rfl
 refine eC 7 12 hs (fun _ _ hs=>wFrom (decide (((z).sign:Int)<(0:Int))) ((iabs z)/b) aOM _ _ hs.g) ?_
 rintro _ _ _ w16 h17 hs rfl
 refine eD0 hs (fun w18 h19 hs=>?_)
 refine tP 8 0 0 (ic (sgn (decide (((z).sign:Int)<(0:Int))) ((iabs z)/b))) hs (fun w20 hs=>?_)
 exact tN (CG.ret (hs.ret [(0,0,3)] (iv (sgn (decide (((z).sign:Int)<(0:Int))) ((iabs z)/b))) (congrArg iv (sgn_part z b hd))))
theorem fTimes (z:Int)(d:Nat)(hl:(wds (iabs z)).length+(wds d).length≤1000000000)(w:World)(h:Hp)(g:G w h) :
    Calls Tryz.prog 63 #[iv z,nv d] w (Ret w h fun v _=>v=iv (z*d)):=by
 have hs:=SS.start g
 refine go Tryz.func63 [(0,iv z),(1,nv d)] rfl ?_
 refine cSL (lA 2 54 (ic z) hs (fun b1 w2 h3 hs=>?_))
 refine lA 3 52 (nc d) hs (fun b4 w5 h6 hs=>?_)
 refine lA 4 54 ([.bool false,.int .u64 0,.string ⟨#[]⟩]) hs (fun b7 w8 h9 hs=>?_)
 refine lN (CG.seq (cR 4 [] mixed hs al_nil ?_))
 refine eO 0 5 [(2,0,3)] (iv z) hs ?_
 refine eO 1 6 [(1,0,2)] (nv d) hs ?_
 refine eC 2 7 hs (fun _ _ hs=>wFromN d _ _ hs.g) ?_
 rintro _ _ _ w10 h11 hs rfl
 refine eC 3 8 hs (fun _ _ hs=>wMul z ((d:Nat):Int) aOM _ _ hs.g) ?_
 rintro _ _ _ w12 h13 hs rfl
 refine eD0 hs (fun w14 h15 hs=>?_)
 refine tP 4 0 0 (ic (z*((d:Nat):Int))) hs (fun w16 hs=>?_)
 exact tN (CG.ret (hs.ret [(0,0,3)] (iv (z*((d:Nat):Int))) rfl))
theorem fIsWhole (a:Rat)(ha:LQ 100000000 a)(w:World)(h:Hp)(g:G w h) :
    Calls Tryz.prog 57 #[qv a] w (Ret w h fun v _=>v=.bool (decide (a.den=1))):=by
 have hs:=SS.start g
 have hqd:=ha.qd
 refine go Tryz.func57 [(0,qv a)] rfl ?_
 refine cSL (lA 1 56 (qc a) hs (fun b1 w2 h3 hs=>?_))
 refine lL hs [.v 2 (.bool false)] (lNS (lL hs [.v 3 (.pointer (some ⟨b1,3,none⟩)),.o 4 (nv (qd a)) 0 3 2] (lC 5 hs (nBits (qd a) aOM _ _ hs.g) ?_)))
 rintro _ w4 h5 hs rfl
 exact lL hs [.v 6 (.bool (((nb (qd a):Nat):Int) == (0:Int))),.m 2 6] (lN (CG.ret (hs.ret [] (.bool (((nb (qd a):Nat):Int) == (0:Int))) (congrArg Value.bool (isw a)))))
theorem fDen (a:Rat)(ha:LQ 100000000 a)(w:World)(h:Hp)(g:G w h) :
    Calls Tryz.prog 61 #[qv a] w (Ret w h fun v _=>v=nv a.den):=by
 have hs:=SS.start g
 refine go Tryz.func61 [(0,qv a)] rfl ?_
 refine cSL (lA 1 56 (qc a) hs (fun b1 w2 h3 hs=>?_))
 refine lA 2 52 ([.int .u64 0,.string ⟨#[]⟩]) hs (fun b4 w5 h6 hs=>?_)
 refine lN (CG.seq (cSL (lL hs [.o 3 (qv a) 1 0 5] (lC 4 hs (fIsWhole a aM _ _ hs.g) ?_))))
 rintro _ w7 h8 hs rfl
 cases hb9:(decide (a.den=1))
 ·
  have phb9:=oF hb9
  refine lN (cIF (CG.skipN (cSL (lL hs [.v 6 (.pointer (some ⟨b1,3,none⟩)),.o 7 (nv (qd a)) 1 3 2] (lP 0 0 (nc (qd a)) hs (fun w10 hs=>?_))))))
  exact lN (CG.ret (hs.ret [(0,0,2)] (nv (qd a)) (by rw[qd_ne (by simpa using (by assumption:decide (a.den=1)=false))])))
 have phb9:=oT hb9
 refine lN (cIT (cSL (lC 5 hs (nOf 1 oM _ _ hs.g) ?_)))
 rintro _ w11 h12 hs rfl
 refine lP 0 0 (nc 1) hs (fun w13 hs=>?_)
 exact lN (CG.ret (hs.ret [(0,0,2)] (nv 1) (by rw[show a.den=1 by simpa using (by assumption:decide (a.den=1)=true)])))
theorem fNum (a:Rat)(w:World)(h:Hp)(g:G w h) :
    Calls Tryz.prog 122 #[qv a] w (Ret w h fun v _=>v=iv a.num):=by
 have hs:=SS.start g
 refine go Tryz.func122 [(0,qv a)] rfl ?_
 refine cSL (lA 1 56 (qc a) hs (fun b1 w2 h3 hs=>?_))
 refine lA 2 54 ([.bool false,.int .u64 0,.string ⟨#[]⟩]) hs (fun b4 w5 h6 hs=>?_)
 refine lNS (lL hs [.v 3 (.pointer (some ⟨b1,0,none⟩)),.o 4 (iv a.num) 1 0 3] (lP 0 0 (ic a.num) hs (fun w7 hs=>?_)))
 exact lN (CG.ret (hs.ret [(0,0,3)] (iv a.num) rfl))
theorem fSign (a:Rat)(ha:LQ 100000000 a)(w:World)(h:Hp)(g:G w h) :
    Calls Tryz.prog 21 #[qv a] w (Ret w h fun v _=>v=.int .i64 a.num.sign):=by
 have hs:=SS.start g
 obtain ⟨ha1,ha2⟩:=ha
 refine go Tryz.func21 [(0,qv a)] rfl ?_
 refine cSL (lA 1 56 (qc a) hs (fun b1 w2 h3 hs=>?_))
 refine lL hs [.v 2 (.int .i64 0)] (lNS (lL hs [.v 3 (.pointer (some ⟨b1,0,none⟩)),.o 4 (iv a.num) 0 0 3] (lC 5 hs (wSign a.num aOM _ _ hs.g) ?_)))
 rintro _ w4 h5 hs rfl
 exact lL hs [.m 2 5] (lN (CG.ret (hs.ret [] (.int .i64 ((a.num).sign)) rfl)))
theorem fOf (z:Int)(h0 : -9223372036854775808≤z)(h1:z≤9223372036854775807)(w:World)(h:Hp)(g:G w h) :
    Calls Tryz.prog 33 #[.int .i64 z] w (Ret w h fun v _=>v=qv (z:Rat)):=by
 have hs:=SS.start g
 refine go Tryz.func33 [(0,.int .i64 z)] rfl ?_
 refine cSL (lA 2 56 ([.bool false,.int .u64 0,.string ⟨#[]⟩,.int .u64 0,.string ⟨#[]⟩]) hs (fun b1 w2 h3 hs=>?_))
 refine lNS (lL hs [.m 3 0] (lC 4 hs (wOf z oM oM _ _ hs.g) ?_))
 rintro _ w4 h5 hs rfl
 refine lL hs [.v 5 (.agg #[.bool (ineg z),.int .u64 (lo (iabs z)),.string (hi (iabs z)),.int .u64 0,.string ⟨#[]⟩])] (lP 0 0 ([.bool (ineg z),.int .u64 (lo (iabs z)),.string (hi (iabs z)),.int .u64 0,.string ⟨#[]⟩]) hs (fun w6 hs=>?_))
 exact lN (CG.ret (hs.ret [(0,0,5)] (.agg #[.bool (ineg z),.int .u64 (lo (iabs z)),.string (hi (iabs z)),.int .u64 0,.string ⟨#[]⟩]) (qv_lit (d:=0) (Rat.num_intCast z) (qd_one (Rat.den_intCast z)))))
theorem fNeg (a:Rat)(ha:LQ 100000000 a)(w:World)(h:Hp)(g:G w h) :
    Calls Tryz.prog 56 #[qv a] w (Ret w h fun v _=>v=qv (-a)):=by
 have hs:=SS.start g
 obtain ⟨ha1,ha2⟩:=ha
 refine go Tryz.func56 [(0,qv a)] rfl ?_
 refine cSL (lA 1 56 (qc a) hs (fun b1 w2 h3 hs=>?_))
 refine lA 2 56 ([.bool false,.int .u64 0,.string ⟨#[]⟩,.int .u64 0,.string ⟨#[]⟩]) hs (fun b4 w5 h6 hs=>?_)
 refine lN (CG.seq (cR 6 [] mixed hs al_nil ?_))
 refine eV 0 3 (.pointer (some ⟨b1,0,none⟩)) ?_
 refine eO 1 4 [(1,0,3)] (iv a.num) hs ?_
 refine eV 3 6 (.pointer (some ⟨b1,3,none⟩)) ?_
 refine eO 4 7 [(1,3,2)] (nv (qd a)) hs ?_
 refine eC 2 5 hs (fun _ _ hs=>wNeg a.num aOM _ _ hs.g) ?_
 rintro _ _ _ w7 h8 hs rfl
 refine eV 5 8 (.agg #[.bool (ineg (-a.num)),.int .u64 (lo (iabs (-a.num))),.string (hi (iabs (-a.num))),.int .u64 (lo (qd a)),.string (hi (qd a))]) ?_
 refine eD0 hs (fun w9 h10 hs=>?_)
 refine tP 6 0 0 ([.bool (ineg (-a.num)),.int .u64 (lo (iabs (-a.num))),.string (hi (iabs (-a.num))),.int .u64 (lo (qd a)),.string (hi (qd a))]) hs (fun w11 hs=>?_)
 exact tN (CG.ret (hs.ret [(0,0,5)] (.agg #[.bool (ineg (-a.num)),.int .u64 (lo (iabs (-a.num))),.string (hi (iabs (-a.num))),.int .u64 (lo (qd a)),.string (hi (qd a))]) (qv_lit (Rat.neg_num a) (by unfold qd;rw[Rat.neg_den]))))
theorem fLowest (z:Int)(d:Nat)(hd:0<d)(hla:(wds (iabs z)).length≤1000000000)(hlb:(wds d).length≤1000000000)(w:World)(h:Hp)(g:G w h)(tb:Tab h) :
    Calls Tryz.prog 113 #[iv z,nv d] w (Ret w h fun v _=>v=qv (mkRat z d)):=by
 have hs:=SS.start g
 replace hs:=(hs.add (K:=fun h_=>Tab h_) tb)
 obtain ⟨hm1,hm2,hm3,hm4⟩:=mkRat_parts z d hd
 obtain ⟨q,hq⟩:∃ q,q=Nat.gcd (iabs z) d:=⟨_,rfl⟩
 rw[←hq] at hm1 hm2 hm3 hm4
 have hql:(wds q).length≤1000000000:=wds_len_le (by rw[hq];exact Nat.gcd_le_right _ hd) hlb
 have hLQ:LQ 1000000000 (mkRat z d):=⟨by rw[hm1];exact wds_len_le (iabs_div_le z q hm3) hla,by rw[hm2];exact wds_len_le (Nat.div_le_self _ _) hlb⟩
 refine go Tryz.func113 [(0,iv z),(1,nv d)] rfl ?_
 refine cSL (lA 2 54 (ic z) hs (fun b1 w2 h3 hs=>?_))
 refine lA 3 52 (nc d) hs (fun b4 w5 h6 hs=>?_)
 refine lA 4 56 ([.bool false,.int .u64 0,.string ⟨#[]⟩,.int .u64 0,.string ⟨#[]⟩]) hs (fun b7 w8 h9 hs=>?_)
 refine lN (CG.seq ?_)
 have hsr:=hs
 refine cR 5 [⟨4,5,.cells (List.toArray [.int .u64 0,.string ⟨#[]⟩]) 52 (0,0)⟩] mixed hs (al_cons (alOk kR (fun _ _=>by kernel_rfl)) al_nil) ?_
 refine eO 0 6 [(2,0,3)] (iv z) hs ?_
 refine eO 1 7 [(1,0,2)] (nv d) hs ?_
 refine eC 2 8 hs (fun _ _ hs=>wFromN d _ _ hs.g) ?_
 rintro _ _ _ w10 h11 hs rfl
 refine eC 3 9 hs (fun _ _ hs=>wGcdE z ((d:Nat):Int) q (by first|assumption|exact hq) aOM (show (wds d).length≤1000000000 by first|assumption|omega) _ _ hs.g (hs.f.1)) ?_
 rintro _ _ _ w12 h13 hs rfl
 refine eD1p [] hsr hs 52 [.int .u64 0,.string ⟨#[]⟩] (fun w14 h15 b16 hs=>?_)
 refine tP 5 0 0 (nc q) hs (fun w17 hs=>?_)
 refine tN (CG.seq (cR 7 [] mixed hs al_nil ?_))
 refine eO 0 10 [(3,0,3)] (iv z) hs ?_
 refine eO 1 11 [(0,0,2)] (nv q) hs ?_
 refine eO 3 13 [(2,0,2)] (nv d) hs ?_
 refine eO 4 14 [(0,0,2)] (nv q) hs ?_
 refine eC 2 12 hs (fun _ _ hs=>fPart z q aM aM aOM aOM _ _ hs.g) ?_
 rintro _ _ _ w18 h19 hs rfl
 refine eC 5 15 hs (fun _ _ hs=>fOver d q aM aOM aOM _ _ hs.g) ?_
 rintro _ _ _ w20 h21 hs rfl
 refine eC 6 16 hs (fun _ _ hs=>fPackE (mkRat z d) (z/((q:Nat):Int)) (d/q) (by first|assumption|exact hm1|exact (hm1).symm) (by first|assumption|exact hm2.symm) aM _ _ hs.g) ?_
 rintro _ _ _ w22 h23 hs rfl
 refine eD0 hs (fun w24 h25 hs=>?_)
 refine tP 7 1 0 (qc (mkRat z d)) hs (fun w26 hs=>?_)
 exact tN (CG.ret (hs.ret [(1,0,5)] (qv (mkRat z d)) rfl))
theorem fIsWholeT (a:Rat)(ha:LQ 100000000 a)(h1:a.den=1)(w:World)(h:Hp)(g:G w h):Calls Tryz.prog 57 #[qv a] w (Ret w h fun v _=>v=.bool true):=by
  have:=fIsWhole a ha w h g;rwa [decide_eq_true h1] at this
theorem fIsWholeF (a:Rat)(ha:LQ 100000000 a)(h1:a.den≠1)(w:World)(h:Hp)(g:G w h):Calls Tryz.prog 57 #[qv a] w (Ret w h fun v _=>v=.bool false):=by
  have:=fIsWhole a ha w h g;rwa [decide_eq_false h1] at this
theorem wAddE (x y z:Int)(e:z=x+y)(hl:(wds (iabs x)).length+(wds (iabs y)).length≤999999999)(w:World)(h:Hp)(g:G w h):Calls Tryz.prog 58 #[iv x,iv y] w (Ret w h fun v _=>v=iv z):=by
  subst e;exact wAdd x y hl w h g
theorem len_imul2 (x y:Int):(wds (iabs (x*y))).length≤(wds (iabs x)).length+(wds (iabs y)).length:=by
  have:iabs (x*y)=iabs x*iabs y:=Int.natAbs_mul x y
  rw[this];exact wds_len_mul
theorem len_imul (x:Int)(d:Nat):(wds (iabs (x*((d:Nat):Int)))).length≤(wds (iabs x)).length+(wds d).length:=len_imul2 x (d:Int)
theorem len_iadd (x y:Int):(wds (iabs (x+y))).length≤(wds (iabs x)).length+(wds (iabs y)).length+1 :=
  Nat.le_trans (wds_len_mono (show iabs (x+y)≤iabs x+iabs y from Int.natAbs_add_le x y)) wds_len_add
theorem rat_add_whole {a b:Rat}(ha:a.den=1)(hb:b.den=1):(a+b).num=a.num+b.num∧(a+b).den=1:=by
  obtain ⟨e1,e2,e3,e4,e5,e6⟩:=rat_add a b 1 1 (a.num+b.num) (by rw[ha,hb];rfl) (by rw[ha,hb];simp) (by simp)
  rw[ha,hb] at e2
  exact ⟨by simpa using e1,by simpa using e2⟩
theorem rat_mul_whole {a b:Rat}(ha:a.den=1)(hb:b.den=1):(a*b).num=a.num*b.num∧(a*b).den=1:=by
  obtain ⟨e1,e2,e3,e4,e5,e6⟩:=rat_mul a b 1 1 (by rw[hb];simp) (by rw[ha];simp)
  rw[ha,hb] at e2
  exact ⟨by simpa using e1,by simpa using e2⟩
theorem fAddWW (a b:Rat)(ha:LQ 100000000 a)(hb:LQ 100000000 b)(hwa:a.den=1)(hwb:b.den=1)(w:World)(h:Hp)(g:G w h)(tb:Tab h) :
    Calls Tryz.prog 19 #[qv a,qv b] w (Ret w h fun v _=>v=qv (a+b)):=by
 have hs:=SS.start g
 replace hs:=(hs.add (K:=fun h_=>Tab h_) tb)
 have ha_:=ha
 have hb_:=hb
 obtain ⟨ha1,ha2⟩:=ha_
 obtain ⟨hb1,hb2⟩:=hb_
 refine go Tryz.func19 [(0,qv a),(1,qv b)] rfl ?_
 refine cSL (lA 2 56 (qc a) hs (fun b1 w2 h3 hs=>?_))
 refine lA 3 56 (qc b) hs (fun b4 w5 h6 hs=>?_)
 refine lA 4 56 ([.bool false,.int .u64 0,.string ⟨#[]⟩,.int .u64 0,.string ⟨#[]⟩]) hs (fun b7 w8 h9 hs=>?_)
 refine lN (CG.seq (cSL (lL hs [.o 10 (qv a) 2 0 5] (lC 11 hs (fIsWholeT a aM aM _ _ hs.g) ?_))))
 rintro _ w10 h11 hs rfl
 refine lL hs [.m 12 11,.o 13 (qv b) 1 0 5] (lC 14 hs (fIsWholeT b aM aM _ _ hs.g) ?_)
 rintro _ w12 h13 hs rfl
 refine lL hs [.v 15 (.bool true)] (lN (cIT (cSL (lL hs [.v 16 (.pointer (some ⟨b1,0,none⟩)),.o 17 (iv a.num) 2 0 3,.v 18 (.pointer (some ⟨b4,0,none⟩)),.o 19 (iv b.num) 1 0 3] (lC 20 hs (wAdd a.num b.num aOM _ _ hs.g) ?_)))))
 rintro _ w14 h15 hs rfl
 refine lL hs [.v 21 (.agg #[.bool (ineg (a.num+b.num)),.int .u64 (lo (iabs (a.num+b.num))),.string (hi (iabs (a.num+b.num))),.int .u64 0,.string ⟨#[]⟩])] (lP 0 0 ([.bool (ineg (a.num+b.num)),.int .u64 (lo (iabs (a.num+b.num))),.string (hi (iabs (a.num+b.num))),.int .u64 0,.string ⟨#[]⟩]) hs (fun w16 hs=>?_))
 exact lN (CG.ret (hs.ret [(0,0,5)] (.agg #[.bool (ineg (a.num+b.num)),.int .u64 (lo (iabs (a.num+b.num))),.string (hi (iabs (a.num+b.num))),.int .u64 0,.string ⟨#[]⟩]) (qv_lit (d:=0) (rat_add_whole hwa hwb).1 (qd_one (rat_add_whole hwa hwb).2))))
theorem fAddNN (a b:Rat)(ha:LQ 100000000 a)(hb:LQ 100000000 b)(hwa:a.den≠1)(w:World)(h:Hp)(g:G w h)(tb:Tab h) :
    Calls Tryz.prog 19 #[qv a,qv b] w (Ret w h fun v _=>v=qv (a+b)):=by
 have hs:=SS.start g
 replace hs:=(hs.add (K:=fun h_=>Tab h_) tb)
 have ha_:=ha
 have hb_:=hb
 obtain ⟨ha1,ha2⟩:=ha
 obtain ⟨hb1,hb2⟩:=hb
 obtain ⟨q,hq⟩:∃ q,q=Nat.gcd a.den b.den:=⟨_,rfl⟩
 obtain ⟨up,hup⟩:∃ up,up=a.num*((b.den/q:Nat):Int)+b.num*((a.den/q:Nat):Int):=⟨_,rfl⟩
 obtain ⟨r,hr⟩:∃ r,r=Nat.gcd (iabs up) q:=⟨_,rfl⟩
 obtain ⟨hm1,hm2,hd1,hd2,hr0,hq0⟩:=rat_add a b q r up hq hup hr
 have hql:(wds q).length≤100000000:=wds_len_le (by rw[hq];exact Nat.gcd_le_left _ a.den_pos) ha2
 have hrl:(wds r).length≤100000000:=wds_len_le (by rw[hr];exact Nat.gcd_le_right _ hq0) hql
 have haq:(wds (a.den/q)).length≤100000000:=wds_len_le (Nat.div_le_self _ _) ha2
 have hbq:(wds (b.den/q)).length≤100000000:=wds_len_le (Nat.div_le_self _ _) hb2
 have hbr:(wds (b.den/r)).length≤100000000:=wds_len_le (Nat.div_le_self _ _) hb2
 have hx1:=len_imul a.num (b.den/q)
 have hx2:=len_imul b.num (a.den/q)
 have hul:(wds (iabs up)).length≤999999999:=Nat.le_trans (by rw[hup];exact len_iadd _ _) oM
 have hdl:=@wds_len_mul (a.den/q) (b.den/r)
 have hLQ:LQ 1000000000 (a+b):=⟨by rw[hm1];exact wds_len_le (iabs_div_le up r hd1) oM,by rw[hm2];omega⟩
 have ha:=ha_
 have hb:=hb_
 refine go Tryz.func19 [(0,qv a),(1,qv b)] rfl ?_
 refine cSL (lA 2 56 (qc a) hs (fun b1 w2 h3 hs=>?_))
 refine lA 3 56 (qc b) hs (fun b4 w5 h6 hs=>?_)
 refine lA 4 56 ([.bool false,.int .u64 0,.string ⟨#[]⟩,.int .u64 0,.string ⟨#[]⟩]) hs (fun b7 w8 h9 hs=>?_)
 refine lN (CG.seq (cSL (lL hs [.o 10 (qv a) 2 0 5] (lC 11 hs (fIsWholeF a aM aM _ _ hs.g) ?_))))
 rintro _ w10 h11 hs rfl
 refine lL hs [.m 12 11] (lG 13 ?_)
 refine lG 14 ?_
 refine lL hs [.v 15 (.bool false)] (lN (cIF (CG.skipN (CG.seq ?_))))
 have hsr:=hs
 refine cR 8 [⟨7,5,.cells (List.toArray [.int .u64 0,.string ⟨#[]⟩]) 52 (0,0)⟩] mixed hs (al_cons (alOk kR (fun _ _=>by kernel_rfl)) al_nil) ?_
 refine eO 0 22 [(2,0,5)] (qv a) hs ?_
 refine eO 3 25 [(1,0,5)] (qv b) hs ?_
 refine eC 1 23 hs (fun _ _ hs=>fDen a aM _ _ hs.g) ?_
 rintro _ _ _ w12 h13 hs rfl
 refine eC 2 24 hs (fun _ _ hs=>wFromN a.den _ _ hs.g) ?_
 rintro _ _ _ w14 h15 hs rfl
 refine eC 4 26 hs (fun _ _ hs=>fDen b aM _ _ hs.g) ?_
 rintro _ _ _ w16 h17 hs rfl
 refine eC 5 27 hs (fun _ _ hs=>wFromN b.den _ _ hs.g) ?_
 rintro _ _ _ w18 h19 hs rfl
 refine eC 6 28 hs (fun _ _ hs=>wGcdE ((a.den:Nat):Int) ((b.den:Nat):Int) q (by first|assumption|exact hq) (show (wds a.den).length≤1000000000 by first|assumption|omega) (show (wds b.den).length≤1000000000 by first|assumption|omega) _ _ hs.g (hs.f.1)) ?_
 rintro _ _ _ w20 h21 hs rfl
 refine eD1p [] hsr hs 52 [.int .u64 0,.string ⟨#[]⟩] (fun w22 h23 b24 hs=>?_)
 refine tP 8 0 0 (nc q) hs (fun w25 hs=>?_)
 refine tN (CG.seq ?_)
 have hsr:=hs
 refine cRz 10 [⟨8,6,.cells (List.toArray [.int .u64 0,.string ⟨#[]⟩]) 52 (0,0)⟩,⟨9,7,.cells (List.toArray [.int .u64 0,.string ⟨#[]⟩]) 52 (0,0)⟩] [] mixed hs (al_cons (alOk kR (fun _ _=>by kernel_rfl)) (al_cons (alOk kR (fun _ _=>by kernel_rfl)) al_nil)) ?_
 refine eO 0 29 [(3,0,5)] (qv a) hs ?_
 refine eO 2 31 [(0,0,2)] (nv q) hs ?_
 refine eOz 4 33 [(2,0,5)] (qv b) hsr hs ?_
 refine eOz 6 35 [(0,0,2)] (nv q) hsr hs ?_
 refine eC 1 30 hs (fun _ _ hs=>fDen a aM _ _ hs.g) ?_
 rintro _ _ _ w26 h27 hs rfl
 refine eC 3 32 hs (fun _ _ hs=>fOver a.den q aM aOM aOM _ _ hs.g) ?_
 rintro _ _ _ w28 h29 hs rfl
 refine eC 5 34 hs (fun _ _ hs=>fDen b aM _ _ hs.g) ?_
 rintro _ _ _ w30 h31 hs rfl
 refine eC 7 36 hs (fun _ _ hs=>fOver b.den q aM aOM aOM _ _ hs.g) ?_
 rintro _ _ _ w32 h33 hs rfl
 refine eD2z hsr hs 52 [.int .u64 0,.string ⟨#[]⟩] 52 [.int .u64 0,.string ⟨#[]⟩] (fun w34 h35 b36 b37 hz38 hz39 hs=>?_)
 refine tP 10 0 0 (nc (a.den/q)) hs (fun w40 hs=>?_) (hz:=tlz_new hz38)
 refine tP 11 1 0 (nc (b.den/q)) hs (fun w41 hs=>?_) (hz:=tlz_new hz39)
 refine tN (CG.seq ?_)
 have hsr:=hs
 refine cR 10 [⟨9,8,.cells (List.toArray [.bool false,.int .u64 0,.string ⟨#[]⟩]) 54 (0,0)⟩] mixed hs (al_cons (alOk kR (fun _ _=>by kernel_rfl)) al_nil) ?_
 refine eV 0 37 (.pointer (some ⟨b1,0,none⟩)) ?_
 refine eO 1 38 [(5,0,3)] (iv a.num) hs ?_
 refine eO 2 39 [(1,0,2)] (nv (b.den/q)) hs ?_
 refine eV 4 41 (.pointer (some ⟨b4,0,none⟩)) ?_
 refine eO 5 42 [(4,0,3)] (iv b.num) hs ?_
 refine eO 6 43 [(0,0,2)] (nv (a.den/q)) hs ?_
 refine eC 3 40 hs (fun _ _ hs=>fTimes a.num (b.den/q) aOM _ _ hs.g) ?_
 rintro _ _ _ w42 h43 hs rfl
 refine eC 7 44 hs (fun _ _ hs=>fTimes b.num (a.den/q) aOM _ _ hs.g) ?_
 rintro _ _ _ w44 h45 hs rfl
 refine eC 8 45 hs (fun _ _ hs=>wAddE (a.num*(((b.den/q):Nat):Int)) (b.num*(((a.den/q):Nat):Int)) up hup oM _ _ hs.g) ?_
 rintro _ _ _ w46 h47 hs rfl
 refine eD1p [] hsr hs 54 [.bool false,.int .u64 0,.string ⟨#[]⟩] (fun w48 h49 b50 hs=>?_)
 refine tP 10 0 0 (ic up) hs (fun w51 hs=>?_)
 refine tN (CG.seq ?_)
 have hsr:=hs
 refine cR 5 [⟨4,9,.cells (List.toArray [.int .u64 0,.string ⟨#[]⟩]) 52 (0,0)⟩] mixed hs (al_cons (alOk kR (fun _ _=>by kernel_rfl)) al_nil) ?_
 refine eO 0 46 [(0,0,3)] (iv up) hs ?_
 refine eO 1 47 [(3,0,2)] (nv q) hs ?_
 refine eC 2 48 hs (fun _ _ hs=>wFromN q _ _ hs.g) ?_
 rintro _ _ _ w52 h53 hs rfl
 refine eC 3 49 hs (fun _ _ hs=>wGcdE up ((q:Nat):Int) r (by first|assumption|exact hr) aOM (show (wds q).length≤1000000000 by first|assumption|omega) _ _ hs.g (hs.f.1)) ?_
 rintro _ _ _ w54 h55 hs rfl
 refine eD1p [] hsr hs 52 [.int .u64 0,.string ⟨#[]⟩] (fun w56 h57 b58 hs=>?_)
 refine tP 5 0 0 (nc r) hs (fun w59 hs=>?_)
 refine tN (cTo [(3,.pointer (some ⟨b4,0,none⟩)),(4,.pointer (some ⟨b7,0,none⟩)),(6,.pointer (some ⟨b36,0,none⟩)),(8,.pointer (some ⟨b50,0,none⟩)),(9,.pointer (some ⟨b58,0,none⟩))] ?_)
 refine CG.seq (cR 10 [] mixed hs al_nil ?_)
 refine eO 0 50 [(1,0,3)] (iv up) hs ?_
 refine eO 1 51 [(0,0,2)] (nv r) hs ?_
 refine eO 3 53 [(2,0,2)] (nv (a.den/q)) hs ?_
 refine eO 4 54 [(6,0,5)] (qv b) hs ?_
 refine eO 6 56 [(0,0,2)] (nv r) hs ?_
 refine eC 2 52 hs (fun _ _ hs=>fPart up r aM aM aOM aOM _ _ hs.g) ?_
 rintro _ _ _ w60 h61 hs rfl
 refine eC 5 55 hs (fun _ _ hs=>fDen b aM _ _ hs.g) ?_
 rintro _ _ _ w62 h63 hs rfl
 refine eC 7 57 hs (fun _ _ hs=>fOver b.den r aM aOM aOM _ _ hs.g) ?_
 rintro _ _ _ w64 h65 hs rfl
 refine eC 8 58 hs (fun _ _ hs=>nMul (a.den/q) (b.den/r) aOM aOM _ _ hs.g) ?_
 rintro _ _ _ w66 h67 hs rfl
 refine eC 9 59 hs (fun _ _ hs=>fPackE (a+b) (up/((r:Nat):Int)) ((a.den/q)*(b.den/r)) (by first|assumption|exact hm1|exact (hm1).symm) (by first|assumption|exact hm2.symm) aM _ _ hs.g) ?_
 rintro _ _ _ w68 h69 hs rfl
 refine eD0 hs (fun w70 h71 hs=>?_)
 refine tP 10 5 0 (qc (a+b)) hs (fun w72 hs=>?_)
 exact tN (CG.ret (hs.ret [(5,0,5)] (qv (a+b)) rfl))
theorem fAddWN (a b:Rat)(ha:LQ 100000000 a)(hb:LQ 100000000 b)(hwa:a.den=1)(hwb:b.den≠1)(w:World)(h:Hp)(g:G w h)(tb:Tab h) :
    Calls Tryz.prog 19 #[qv a,qv b] w (Ret w h fun v _=>v=qv (a+b)):=by
 have hs:=SS.start g
 replace hs:=(hs.add (K:=fun h_=>Tab h_) tb)
 have ha_:=ha
 have hb_:=hb
 obtain ⟨ha1,ha2⟩:=ha
 obtain ⟨hb1,hb2⟩:=hb
 obtain ⟨q,hq⟩:∃ q,q=Nat.gcd a.den b.den:=⟨_,rfl⟩
 obtain ⟨up,hup⟩:∃ up,up=a.num*((b.den/q:Nat):Int)+b.num*((a.den/q:Nat):Int):=⟨_,rfl⟩
 obtain ⟨r,hr⟩:∃ r,r=Nat.gcd (iabs up) q:=⟨_,rfl⟩
 obtain ⟨hm1,hm2,hd1,hd2,hr0,hq0⟩:=rat_add a b q r up hq hup hr
 have hql:(wds q).length≤100000000:=wds_len_le (by rw[hq];exact Nat.gcd_le_left _ a.den_pos) ha2
 have hrl:(wds r).length≤100000000:=wds_len_le (by rw[hr];exact Nat.gcd_le_right _ hq0) hql
 have haq:(wds (a.den/q)).length≤100000000:=wds_len_le (Nat.div_le_self _ _) ha2
 have hbq:(wds (b.den/q)).length≤100000000:=wds_len_le (Nat.div_le_self _ _) hb2
 have hbr:(wds (b.den/r)).length≤100000000:=wds_len_le (Nat.div_le_self _ _) hb2
 have hx1:=len_imul a.num (b.den/q)
 have hx2:=len_imul b.num (a.den/q)
 have hul:(wds (iabs up)).length≤999999999:=Nat.le_trans (by rw[hup];exact len_iadd _ _) oM
 have hdl:=@wds_len_mul (a.den/q) (b.den/r)
 have hLQ:LQ 1000000000 (a+b):=⟨by rw[hm1];exact wds_len_le (iabs_div_le up r hd1) oM,by rw[hm2];omega⟩
 have ha:=ha_
 have hb:=hb_
 refine go Tryz.func19 [(0,qv a),(1,qv b)] rfl ?_
 refine cSL (lA 2 56 (qc a) hs (fun b1 w2 h3 hs=>?_))
 refine lA 3 56 (qc b) hs (fun b4 w5 h6 hs=>?_)
 refine lA 4 56 ([.bool false,.int .u64 0,.string ⟨#[]⟩,.int .u64 0,.string ⟨#[]⟩]) hs (fun b7 w8 h9 hs=>?_)
 refine lN (CG.seq (cSL (lL hs [.o 10 (qv a) 2 0 5] (lC 11 hs (fIsWholeT a aM aM _ _ hs.g) ?_))))
 rintro _ w10 h11 hs rfl
 refine lL hs [.m 12 11,.o 13 (qv b) 1 0 5] (lC 14 hs (fIsWholeF b aM aM _ _ hs.g) ?_)
 rintro _ w12 h13 hs rfl
 refine lL hs [.v 15 (.bool false)] (lN (cIF (CG.skipN (CG.seq ?_))))
 have hsr:=hs
 refine cR 8 [⟨7,5,.cells (List.toArray [.int .u64 0,.string ⟨#[]⟩]) 52 (0,0)⟩] mixed hs (al_cons (alOk kR (fun _ _=>by kernel_rfl)) al_nil) ?_
 refine eO 0 22 [(2,0,5)] (qv a) hs ?_
 refine eO 3 25 [(1,0,5)] (qv b) hs ?_
 refine eC 1 23 hs (fun _ _ hs=>fDen a aM _ _ hs.g) ?_
 rintro _ _ _ w14 h15 hs rfl
 refine eC 2 24 hs (fun _ _ hs=>wFromN a.den _ _ hs.g) ?_
 rintro _ _ _ w16 h17 hs rfl
 refine eC 4 26 hs (fun _ _ hs=>fDen b aM _ _ hs.g) ?_
 rintro _ _ _ w18 h19 hs rfl
 refine eC 5 27 hs (fun _ _ hs=>wFromN b.den _ _ hs.g) ?_
 rintro _ _ _ w20 h21 hs rfl
 refine eC 6 28 hs (fun _ _ hs=>wGcdE ((a.den:Nat):Int) ((b.den:Nat):Int) q (by first|assumption|exact hq) (show (wds a.den).length≤1000000000 by first|assumption|omega) (show (wds b.den).length≤1000000000 by first|assumption|omega) _ _ hs.g (hs.f.1)) ?_
 rintro _ _ _ w22 h23 hs rfl
 refine eD1p [] hsr hs 52 [.int .u64 0,.string ⟨#[]⟩] (fun w24 h25 b26 hs=>?_)
 refine tP 8 0 0 (nc q) hs (fun w27 hs=>?_)
 refine tN (CG.seq ?_)
 have hsr:=hs
 refine cRz 10 [⟨8,6,.cells (List.toArray [.int .u64 0,.string ⟨#[]⟩]) 52 (0,0)⟩,⟨9,7,.cells (List.toArray [.int .u64 0,.string ⟨#[]⟩]) 52 (0,0)⟩] [] mixed hs (al_cons (alOk kR (fun _ _=>by kernel_rfl)) (al_cons (alOk kR (fun _ _=>by kernel_rfl)) al_nil)) ?_
 refine eO 0 29 [(3,0,5)] (qv a) hs ?_
 refine eO 2 31 [(0,0,2)] (nv q) hs ?_
 refine eOz 4 33 [(2,0,5)] (qv b) hsr hs ?_
 refine eOz 6 35 [(0,0,2)] (nv q) hsr hs ?_
 refine eC 1 30 hs (fun _ _ hs=>fDen a aM _ _ hs.g) ?_
 rintro _ _ _ w28 h29 hs rfl
 refine eC 3 32 hs (fun _ _ hs=>fOver a.den q aM aOM aOM _ _ hs.g) ?_
 rintro _ _ _ w30 h31 hs rfl
 refine eC 5 34 hs (fun _ _ hs=>fDen b aM _ _ hs.g) ?_
 rintro _ _ _ w32 h33 hs rfl
 refine eC 7 36 hs (fun _ _ hs=>fOver b.den q aM aOM aOM _ _ hs.g) ?_
 rintro _ _ _ w34 h35 hs rfl
 refine eD2z hsr hs 52 [.int .u64 0,.string ⟨#[]⟩] 52 [.int .u64 0,.string ⟨#[]⟩] (fun w36 h37 b38 b39 hz40 hz41 hs=>?_)
 refine tP 10 0 0 (nc (a.den/q)) hs (fun w42 hs=>?_) (hz:=tlz_new hz40)
 refine tP 11 1 0 (nc (b.den/q)) hs (fun w43 hs=>?_) (hz:=tlz_new hz41)
 refine tN (CG.seq ?_)
 have hsr:=hs
 refine cR 10 [⟨9,8,.cells (List.toArray [.bool false,.int .u64 0,.string ⟨#[]⟩]) 54 (0,0)⟩] mixed hs (al_cons (alOk kR (fun _ _=>by kernel_rfl)) al_nil) ?_
 refine eV 0 37 (.pointer (some ⟨b1,0,none⟩)) ?_
 refine eO 1 38 [(5,0,3)] (iv a.num) hs ?_
 refine eO 2 39 [(1,0,2)] (nv (b.den/q)) hs ?_
 refine eV 4 41 (.pointer (some ⟨b4,0,none⟩)) ?_
 refine eO 5 42 [(4,0,3)] (iv b.num) hs ?_
 refine eO 6 43 [(0,0,2)] (nv (a.den/q)) hs ?_
 refine eC 3 40 hs (fun _ _ hs=>fTimes a.num (b.den/q) aOM _ _ hs.g) ?_
 rintro _ _ _ w44 h45 hs rfl
 refine eC 7 44 hs (fun _ _ hs=>fTimes b.num (a.den/q) aOM _ _ hs.g) ?_
 rintro _ _ _ w46 h47 hs rfl
 refine eC 8 45 hs (fun _ _ hs=>wAddE (a.num*(((b.den/q):Nat):Int)) (b.num*(((a.den/q):Nat):Int)) up hup oM _ _ hs.g) ?_
 rintro _ _ _ w48 h49 hs rfl
 refine eD1p [] hsr hs 54 [.bool false,.int .u64 0,.string ⟨#[]⟩] (fun w50 h51 b52 hs=>?_)
 refine tP 10 0 0 (ic up) hs (fun w53 hs=>?_)
 refine tN (CG.seq ?_)
 have hsr:=hs
 refine cR 5 [⟨4,9,.cells (List.toArray [.int .u64 0,.string ⟨#[]⟩]) 52 (0,0)⟩] mixed hs (al_cons (alOk kR (fun _ _=>by kernel_rfl)) al_nil) ?_
 refine eO 0 46 [(0,0,3)] (iv up) hs ?_
 refine eO 1 47 [(3,0,2)] (nv q) hs ?_
 refine eC 2 48 hs (fun _ _ hs=>wFromN q _ _ hs.g) ?_
 rintro _ _ _ w54 h55 hs rfl
 refine eC 3 49 hs (fun _ _ hs=>wGcdE up ((q:Nat):Int) r (by first|assumption|exact hr) aOM (show (wds q).length≤1000000000 by first|assumption|omega) _ _ hs.g (hs.f.1)) ?_
 rintro _ _ _ w56 h57 hs rfl
 refine eD1p [] hsr hs 52 [.int .u64 0,.string ⟨#[]⟩] (fun w58 h59 b60 hs=>?_)
 refine tP 5 0 0 (nc r) hs (fun w61 hs=>?_)
 refine tN (cTo [(3,.pointer (some ⟨b4,0,none⟩)),(4,.pointer (some ⟨b7,0,none⟩)),(6,.pointer (some ⟨b38,0,none⟩)),(8,.pointer (some ⟨b52,0,none⟩)),(9,.pointer (some ⟨b60,0,none⟩))] ?_)
 refine CG.seq (cR 10 [] mixed hs al_nil ?_)
 refine eO 0 50 [(1,0,3)] (iv up) hs ?_
 refine eO 1 51 [(0,0,2)] (nv r) hs ?_
 refine eO 3 53 [(2,0,2)] (nv (a.den/q)) hs ?_
 refine eO 4 54 [(6,0,5)] (qv b) hs ?_
 refine eO 6 56 [(0,0,2)] (nv r) hs ?_
 refine eC 2 52 hs (fun _ _ hs=>fPart up r aM aM aOM aOM _ _ hs.g) ?_
 rintro _ _ _ w62 h63 hs rfl
 refine eC 5 55 hs (fun _ _ hs=>fDen b aM _ _ hs.g) ?_
 rintro _ _ _ w64 h65 hs rfl
 refine eC 7 57 hs (fun _ _ hs=>fOver b.den r aM aOM aOM _ _ hs.g) ?_
 rintro _ _ _ w66 h67 hs rfl
 refine eC 8 58 hs (fun _ _ hs=>nMul (a.den/q) (b.den/r) aOM aOM _ _ hs.g) ?_
 rintro _ _ _ w68 h69 hs rfl
 refine eC 9 59 hs (fun _ _ hs=>fPackE (a+b) (up/((r:Nat):Int)) ((a.den/q)*(b.den/r)) (by first|assumption|exact hm1|exact (hm1).symm) (by first|assumption|exact hm2.symm) aM _ _ hs.g) ?_
 rintro _ _ _ w70 h71 hs rfl
 refine eD0 hs (fun w72 h73 hs=>?_)
 refine tP 10 5 0 (qc (a+b)) hs (fun w74 hs=>?_)
 exact tN (CG.ret (hs.ret [(5,0,5)] (qv (a+b)) rfl))
theorem fAdd (a b:Rat)(ha:LQ 100000000 a)(hb:LQ 100000000 b)(w:World)(h:Hp)(g:G w h)(tb:Tab h):Calls Tryz.prog 19 #[qv a,qv b] w (Ret w h fun v _=>v=qv (a+b)):=by
  by_cases h1:a.den=1
  · by_cases h2:b.den=1
    · exact fAddWW a b ha hb h1 h2 w h g tb
    · exact fAddWN a b ha hb h1 h2 w h g tb
  · exact fAddNN a b ha hb h1 w h g tb
theorem fMulWW (a b:Rat)(ha:LQ 100000000 a)(hb:LQ 100000000 b)(hwa:a.den=1)(hwb:b.den=1)(w:World)(h:Hp)(g:G w h)(tb:Tab h) :
    Calls Tryz.prog 55 #[qv a,qv b] w (Ret w h fun v _=>v=qv (a*b)):=by
 have hs:=SS.start g
 replace hs:=(hs.add (K:=fun h_=>Tab h_) tb)
 have ha_:=ha
 have hb_:=hb
 obtain ⟨ha1,ha2⟩:=ha_
 obtain ⟨hb1,hb2⟩:=hb_
 refine go Tryz.func55 [(0,qv a),(1,qv b)] rfl ?_
 refine cSL (lA 2 56 (qc a) hs (fun b1 w2 h3 hs=>?_))
 refine lA 3 56 (qc b) hs (fun b4 w5 h6 hs=>?_)
 refine lA 4 56 ([.bool false,.int .u64 0,.string ⟨#[]⟩,.int .u64 0,.string ⟨#[]⟩]) hs (fun b7 w8 h9 hs=>?_)
 refine lN (CG.seq (cSL (lL hs [.o 7 (qv a) 2 0 5] (lC 8 hs (fIsWholeT a aM aM _ _ hs.g) ?_))))
 rintro _ w10 h11 hs rfl
 refine lL hs [.m 9 8,.o 10 (qv b) 1 0 5] (lC 11 hs (fIsWholeT b aM aM _ _ hs.g) ?_)
 rintro _ w12 h13 hs rfl
 refine lL hs [.v 12 (.bool true)] (lN (cIT (cSL (lL hs [.v 13 (.pointer (some ⟨b1,0,none⟩)),.o 14 (iv a.num) 2 0 3,.v 15 (.pointer (some ⟨b4,0,none⟩)),.o 16 (iv b.num) 1 0 3] (lC 17 hs (wMul a.num b.num aOM _ _ hs.g) ?_)))))
 rintro _ w14 h15 hs rfl
 refine lL hs [.v 18 (.agg #[.bool (ineg (a.num*b.num)),.int .u64 (lo (iabs (a.num*b.num))),.string (hi (iabs (a.num*b.num))),.int .u64 0,.string ⟨#[]⟩])] (lP 0 0 ([.bool (ineg (a.num*b.num)),.int .u64 (lo (iabs (a.num*b.num))),.string (hi (iabs (a.num*b.num))),.int .u64 0,.string ⟨#[]⟩]) hs (fun w16 hs=>?_))
 exact lN (CG.ret (hs.ret [(0,0,5)] (.agg #[.bool (ineg (a.num*b.num)),.int .u64 (lo (iabs (a.num*b.num))),.string (hi (iabs (a.num*b.num))),.int .u64 0,.string ⟨#[]⟩]) (qv_lit (d:=0) (rat_mul_whole hwa hwb).1 (qd_one (rat_mul_whole hwa hwb).2))))
theorem fMulNN (a b:Rat)(ha:LQ 100000000 a)(hb:LQ 100000000 b)(hwa:a.den≠1)(w:World)(h:Hp)(g:G w h)(tb:Tab h) :
    Calls Tryz.prog 55 #[qv a,qv b] w (Ret w h fun v _=>v=qv (a*b)):=by
 have hs:=SS.start g
 replace hs:=(hs.add (K:=fun h_=>Tab h_) tb)
 have ha_:=ha
 have hb_:=hb
 obtain ⟨ha1,ha2⟩:=ha
 obtain ⟨hb1,hb2⟩:=hb
 obtain ⟨q,hq⟩:∃ q,q=Nat.gcd (iabs a.num) b.den:=⟨_,rfl⟩
 obtain ⟨r,hr⟩:∃ r,r=Nat.gcd (iabs b.num) a.den:=⟨_,rfl⟩
 obtain ⟨hm1,hm2,hd1,hd2,hq0,hr0⟩:=rat_mul a b q r hq hr
 have hql:(wds q).length≤100000000:=wds_len_le (by rw[hq];exact Nat.gcd_le_right _ b.den_pos) hb2
 have hrl:(wds r).length≤100000000:=wds_len_le (by rw[hr];exact Nat.gcd_le_right _ a.den_pos) ha2
 have haq:(wds (iabs (a.num/((q:Nat):Int)))).length≤100000000:=wds_len_le (iabs_div_le _ _ hd1) ha1
 have hbr:(wds (iabs (b.num/((r:Nat):Int)))).length≤100000000:=wds_len_le (iabs_div_le _ _ hd2) hb1
 have har:(wds (a.den/r)).length≤100000000:=wds_len_le (Nat.div_le_self _ _) ha2
 have hbq:(wds (b.den/q)).length≤100000000:=wds_len_le (Nat.div_le_self _ _) hb2
 have hdl:=@wds_len_mul (a.den/r) (b.den/q)
 have hnl:=len_imul2 (a.num/((q:Nat):Int)) (b.num/((r:Nat):Int))
 have hLQ:LQ 1000000000 (a*b):=⟨by rw[hm1];omega,by rw[hm2];omega⟩
 have ha:=ha_
 have hb:=hb_
 refine go Tryz.func55 [(0,qv a),(1,qv b)] rfl ?_
 refine cSL (lA 2 56 (qc a) hs (fun b1 w2 h3 hs=>?_))
 refine lA 3 56 (qc b) hs (fun b4 w5 h6 hs=>?_)
 refine lA 4 56 ([.bool false,.int .u64 0,.string ⟨#[]⟩,.int .u64 0,.string ⟨#[]⟩]) hs (fun b7 w8 h9 hs=>?_)
 refine lN (CG.seq (cSL (lL hs [.o 7 (qv a) 2 0 5] (lC 8 hs (fIsWholeF a aM aM _ _ hs.g) ?_))))
 rintro _ w10 h11 hs rfl
 refine lL hs [.m 9 8] (lG 10 ?_)
 refine lG 11 ?_
 refine lL hs [.v 12 (.bool false)] (lN (cIF (CG.skipN (CG.seq ?_))))
 have hsr:=hs
 refine cR 7 [⟨6,5,.cells (List.toArray [.int .u64 0,.string ⟨#[]⟩]) 52 (0,0)⟩] mixed hs (al_cons (alOk kR (fun _ _=>by kernel_rfl)) al_nil) ?_
 refine eV 0 19 (.pointer (some ⟨b1,0,none⟩)) ?_
 refine eO 1 20 [(2,0,3)] (iv a.num) hs ?_
 refine eO 2 21 [(1,0,5)] (qv b) hs ?_
 refine eC 3 22 hs (fun _ _ hs=>fDen b aM _ _ hs.g) ?_
 rintro _ _ _ w12 h13 hs rfl
 refine eC 4 23 hs (fun _ _ hs=>wFromN b.den _ _ hs.g) ?_
 rintro _ _ _ w14 h15 hs rfl
 refine eC 5 24 hs (fun _ _ hs=>wGcdE a.num ((b.den:Nat):Int) q (by first|assumption|exact hq) aOM (show (wds b.den).length≤1000000000 by first|assumption|omega) _ _ hs.g (hs.f.1)) ?_
 rintro _ _ _ w16 h17 hs rfl
 refine eD1p [] hsr hs 52 [.int .u64 0,.string ⟨#[]⟩] (fun w18 h19 b20 hs=>?_)
 refine tP 7 0 0 (nc q) hs (fun w21 hs=>?_)
 refine tN (CG.seq ?_)
 have hsr:=hs
 refine cR 7 [⟨6,6,.cells (List.toArray [.int .u64 0,.string ⟨#[]⟩]) 52 (0,0)⟩] mixed hs (al_cons (alOk kR (fun _ _=>by kernel_rfl)) al_nil) ?_
 refine eV 0 25 (.pointer (some ⟨b4,0,none⟩)) ?_
 refine eO 1 26 [(2,0,3)] (iv b.num) hs ?_
 refine eO 2 27 [(3,0,5)] (qv a) hs ?_
 refine eC 3 28 hs (fun _ _ hs=>fDen a aM _ _ hs.g) ?_
 rintro _ _ _ w22 h23 hs rfl
 refine eC 4 29 hs (fun _ _ hs=>wFromN a.den _ _ hs.g) ?_
 rintro _ _ _ w24 h25 hs rfl
 refine eC 5 30 hs (fun _ _ hs=>wGcdE b.num ((a.den:Nat):Int) r (by first|assumption|exact hr) aOM (show (wds a.den).length≤1000000000 by first|assumption|omega) _ _ hs.g (hs.f.1)) ?_
 rintro _ _ _ w26 h27 hs rfl
 refine eD1p [] hsr hs 52 [.int .u64 0,.string ⟨#[]⟩] (fun w28 h29 b30 hs=>?_)
 refine tP 7 0 0 (nc r) hs (fun w31 hs=>?_)
 refine tN (CG.seq (cR 19 [] mixed hs al_nil ?_))
 refine eV 0 31 (.pointer (some ⟨b1,0,none⟩)) ?_
 refine eO 1 32 [(4,0,3)] (iv a.num) hs ?_
 refine eO 2 33 [(1,0,2)] (nv q) hs ?_
 refine eV 4 35 (.pointer (some ⟨b4,0,none⟩)) ?_
 refine eO 5 36 [(3,0,3)] (iv b.num) hs ?_
 refine eO 6 37 [(0,0,2)] (nv r) hs ?_
 refine eO 9 40 [(4,0,5)] (qv a) hs ?_
 refine eO 11 42 [(0,0,2)] (nv r) hs ?_
 refine eO 13 44 [(3,0,5)] (qv b) hs ?_
 refine eO 15 46 [(1,0,2)] (nv q) hs ?_
 refine eC 3 34 hs (fun _ _ hs=>fPart a.num q aM aM aOM aOM _ _ hs.g) ?_
 rintro _ _ _ w32 h33 hs rfl
 refine eC 7 38 hs (fun _ _ hs=>fPart b.num r aM aM aOM aOM _ _ hs.g) ?_
 rintro _ _ _ w34 h35 hs rfl
 refine eC 8 39 hs (fun _ _ hs=>wMul (a.num/((q:Nat):Int)) (b.num/((r:Nat):Int)) aOM _ _ hs.g) ?_
 rintro _ _ _ w36 h37 hs rfl
 refine eC 10 41 hs (fun _ _ hs=>fDen a aM _ _ hs.g) ?_
 rintro _ _ _ w38 h39 hs rfl
 refine eC 12 43 hs (fun _ _ hs=>fOver a.den r aM aOM aOM _ _ hs.g) ?_
 rintro _ _ _ w40 h41 hs rfl
 refine eC 14 45 hs (fun _ _ hs=>fDen b aM _ _ hs.g) ?_
 rintro _ _ _ w42 h43 hs rfl
 refine eC 16 47 hs (fun _ _ hs=>fOver b.den q aM aOM aOM _ _ hs.g) ?_
 rintro _ _ _ w44 h45 hs rfl
 refine eC 17 48 hs (fun _ _ hs=>nMul (a.den/r) (b.den/q) aOM aOM _ _ hs.g) ?_
 rintro _ _ _ w46 h47 hs rfl
 refine eC 18 49 hs (fun _ _ hs=>fPackE (a*b) ((a.num/((q:Nat):Int))*(b.num/((r:Nat):Int))) ((a.den/r)*(b.den/q)) (by first|assumption|exact hm1|exact (hm1).symm) (by first|assumption|exact hm2.symm) aM _ _ hs.g) ?_
 rintro _ _ _ w48 h49 hs rfl
 refine eD0 hs (fun w50 h51 hs=>?_)
 refine tP 19 2 0 (qc (a*b)) hs (fun w52 hs=>?_)
 refine tN (cTo [(4,.pointer (some ⟨b7,0,none⟩))] ?_)
 exact CG.ret (hs.ret [(2,0,5)] (qv (a*b)) rfl)
theorem fMulWN (a b:Rat)(ha:LQ 100000000 a)(hb:LQ 100000000 b)(hwa:a.den=1)(hwb:b.den≠1)(w:World)(h:Hp)(g:G w h)(tb:Tab h) :
    Calls Tryz.prog 55 #[qv a,qv b] w (Ret w h fun v _=>v=qv (a*b)):=by
 have hs:=SS.start g
 replace hs:=(hs.add (K:=fun h_=>Tab h_) tb)
 have ha_:=ha
 have hb_:=hb
 obtain ⟨ha1,ha2⟩:=ha
 obtain ⟨hb1,hb2⟩:=hb
 obtain ⟨q,hq⟩:∃ q,q=Nat.gcd (iabs a.num) b.den:=⟨_,rfl⟩
 obtain ⟨r,hr⟩:∃ r,r=Nat.gcd (iabs b.num) a.den:=⟨_,rfl⟩
 obtain ⟨hm1,hm2,hd1,hd2,hq0,hr0⟩:=rat_mul a b q r hq hr
 have hql:(wds q).length≤100000000:=wds_len_le (by rw[hq];exact Nat.gcd_le_right _ b.den_pos) hb2
 have hrl:(wds r).length≤100000000:=wds_len_le (by rw[hr];exact Nat.gcd_le_right _ a.den_pos) ha2
 have haq:(wds (iabs (a.num/((q:Nat):Int)))).length≤100000000:=wds_len_le (iabs_div_le _ _ hd1) ha1
 have hbr:(wds (iabs (b.num/((r:Nat):Int)))).length≤100000000:=wds_len_le (iabs_div_le _ _ hd2) hb1
 have har:(wds (a.den/r)).length≤100000000:=wds_len_le (Nat.div_le_self _ _) ha2
 have hbq:(wds (b.den/q)).length≤100000000:=wds_len_le (Nat.div_le_self _ _) hb2
 have hdl:=@wds_len_mul (a.den/r) (b.den/q)
 have hnl:=len_imul2 (a.num/((q:Nat):Int)) (b.num/((r:Nat):Int))
 have hLQ:LQ 1000000000 (a*b):=⟨by rw[hm1];omega,by rw[hm2];omega⟩
 have ha:=ha_
 have hb:=hb_
 refine go Tryz.func55 [(0,qv a),(1,qv b)] rfl ?_
 refine cSL (lA 2 56 (qc a) hs (fun b1 w2 h3 hs=>?_))
 refine lA 3 56 (qc b) hs (fun b4 w5 h6 hs=>?_)
 refine lA 4 56 ([.bool false,.int .u64 0,.string ⟨#[]⟩,.int .u64 0,.string ⟨#[]⟩]) hs (fun b7 w8 h9 hs=>?_)
 refine lN (CG.seq (cSL (lL hs [.o 7 (qv a) 2 0 5] (lC 8 hs (fIsWholeT a aM aM _ _ hs.g) ?_))))
 rintro _ w10 h11 hs rfl
 refine lL hs [.m 9 8,.o 10 (qv b) 1 0 5] (lC 11 hs (fIsWholeF b aM aM _ _ hs.g) ?_)
 rintro _ w12 h13 hs rfl
 refine lL hs [.v 12 (.bool false)] (lN (cIF (CG.skipN (CG.seq ?_))))
 have hsr:=hs
 refine cR 7 [⟨6,5,.cells (List.toArray [.int .u64 0,.string ⟨#[]⟩]) 52 (0,0)⟩] mixed hs (al_cons (alOk kR (fun _ _=>by kernel_rfl)) al_nil) ?_
 refine eV 0 19 (.pointer (some ⟨b1,0,none⟩)) ?_
 refine eO 1 20 [(2,0,3)] (iv a.num) hs ?_
 refine eO 2 21 [(1,0,5)] (qv b) hs ?_
 refine eC 3 22 hs (fun _ _ hs=>fDen b aM _ _ hs.g) ?_
 rintro _ _ _ w14 h15 hs rfl
 refine eC 4 23 hs (fun _ _ hs=>wFromN b.den _ _ hs.g) ?_
 rintro _ _ _ w16 h17 hs rfl
 refine eC 5 24 hs (fun _ _ hs=>wGcdE a.num ((b.den:Nat):Int) q (by first|assumption|exact hq) aOM (show (wds b.den).length≤1000000000 by first|assumption|omega) _ _ hs.g (hs.f.1)) ?_
 rintro _ _ _ w18 h19 hs rfl
 refine eD1p [] hsr hs 52 [.int .u64 0,.string ⟨#[]⟩] (fun w20 h21 b22 hs=>?_)
 refine tP 7 0 0 (nc q) hs (fun w23 hs=>?_)
 refine tN (CG.seq ?_)
 have hsr:=hs
 refine cR 7 [⟨6,6,.cells (List.toArray [.int .u64 0,.string ⟨#[]⟩]) 52 (0,0)⟩] mixed hs (al_cons (alOk kR (fun _ _=>by kernel_rfl)) al_nil) ?_
 refine eV 0 25 (.pointer (some ⟨b4,0,none⟩)) ?_
 refine eO 1 26 [(2,0,3)] (iv b.num) hs ?_
 refine eO 2 27 [(3,0,5)] (qv a) hs ?_
 refine eC 3 28 hs (fun _ _ hs=>fDen a aM _ _ hs.g) ?_
 rintro _ _ _ w24 h25 hs rfl
 refine eC 4 29 hs (fun _ _ hs=>wFromN a.den _ _ hs.g) ?_
 rintro _ _ _ w26 h27 hs rfl
 refine eC 5 30 hs (fun _ _ hs=>wGcdE b.num ((a.den:Nat):Int) r (by first|assumption|exact hr) aOM (show (wds a.den).length≤1000000000 by first|assumption|omega) _ _ hs.g (hs.f.1)) ?_
 rintro _ _ _ w28 h29 hs rfl
 refine eD1p [] hsr hs 52 [.int .u64 0,.string ⟨#[]⟩] (fun w30 h31 b32 hs=>?_)
 refine tP 7 0 0 (nc r) hs (fun w33 hs=>?_)
 refine tN (CG.seq (cR 19 [] mixed hs al_nil ?_))
 refine eV 0 31 (.pointer (some ⟨b1,0,none⟩)) ?_
 refine eO 1 32 [(4,0,3)] (iv a.num) hs ?_
 refine eO 2 33 [(1,0,2)] (nv q) hs ?_
 refine eV 4 35 (.pointer (some ⟨b4,0,none⟩)) ?_
 refine eO 5 36 [(3,0,3)] (iv b.num) hs ?_
 refine eO 6 37 [(0,0,2)] (nv r) hs ?_
 refine eO 9 40 [(4,0,5)] (qv a) hs ?_
 refine eO 11 42 [(0,0,2)] (nv r) hs ?_
 refine eO 13 44 [(3,0,5)] (qv b) hs ?_
 refine eO 15 46 [(1,0,2)] (nv q) hs ?_
 refine eC 3 34 hs (fun _ _ hs=>fPart a.num q aM aM aOM aOM _ _ hs.g) ?_
 rintro _ _ _ w34 h35 hs rfl
 refine eC 7 38 hs (fun _ _ hs=>fPart b.num r aM aM aOM aOM _ _ hs.g) ?_
 rintro _ _ _ w36 h37 hs rfl
 refine eC 8 39 hs (fun _ _ hs=>wMul (a.num/((q:Nat):Int)) (b.num/((r:Nat):Int)) aOM _ _ hs.g) ?_
 rintro _ _ _ w38 h39 hs rfl
 refine eC 10 41 hs (fun _ _ hs=>fDen a aM _ _ hs.g) ?_
 rintro _ _ _ w40 h41 hs rfl
 refine eC 12 43 hs (fun _ _ hs=>fOver a.den r aM aOM aOM _ _ hs.g) ?_
 rintro _ _ _ w42 h43 hs rfl
 refine eC 14 45 hs (fun _ _ hs=>fDen b aM _ _ hs.g) ?_
 rintro _ _ _ w44 h45 hs rfl
 refine eC 16 47 hs (fun _ _ hs=>fOver b.den q aM aOM aOM _ _ hs.g) ?_
 rintro _ _ _ w46 h47 hs rfl
 refine eC 17 48 hs (fun _ _ hs=>nMul (a.den/r) (b.den/q) aOM aOM _ _ hs.g) ?_
 rintro _ _ _ w48 h49 hs rfl
 refine eC 18 49 hs (fun _ _ hs=>fPackE (a*b) ((a.num/((q:Nat):Int))*(b.num/((r:Nat):Int))) ((a.den/r)*(b.den/q)) (by first|assumption|exact hm1|exact (hm1).symm) (by first|assumption|exact hm2.symm) aM _ _ hs.g) ?_
 rintro _ _ _ w50 h51 hs rfl
 refine eD0 hs (fun w52 h53 hs=>?_)
 refine tP 19 2 0 (qc (a*b)) hs (fun w54 hs=>?_)
 refine tN (cTo [(4,.pointer (some ⟨b7,0,none⟩))] ?_)
 exact CG.ret (hs.ret [(2,0,5)] (qv (a*b)) rfl)
theorem fMul (a b:Rat)(ha:LQ 100000000 a)(hb:LQ 100000000 b)(w:World)(h:Hp)(g:G w h)(tb:Tab h):Calls Tryz.prog 55 #[qv a,qv b] w (Ret w h fun v _=>v=qv (a*b)):=by
  by_cases h1:a.den=1
  · by_cases h2:b.den=1
    · exact fMulWW a b ha hb h1 h2 w h g tb
    · exact fMulWN a b ha hb h1 h2 w h g tb
  · exact fMulNN a b ha hb h1 w h g tb
theorem LQ.neg {k:Nat}{a:Rat}(h:LQ k a):LQ k (-a):=⟨by rw[Rat.neg_num];unfold iabs;rw[Int.natAbs_neg];exact h.1,by rw[Rat.neg_den];exact h.2⟩
theorem fSub (a b:Rat)(ha:LQ 100000000 a)(hb:LQ 100000000 b)(w:World)(h:Hp)(g:G w h)(tb:Tab h) :
    Calls Tryz.prog 18 #[qv a,qv b] w (Ret w h fun v _=>v=qv (a-b)):=by
 have hs:=SS.start g
 replace hs:=(hs.add (K:=fun h_=>Tab h_) tb)
 have hnb:=hb.neg
 refine go Tryz.func18 [(0,qv a),(1,qv b)] rfl ?_
 refine cSL (lA 2 56 (qc a) hs (fun b1 w2 h3 hs=>?_))
 refine lA 3 56 (qc b) hs (fun b4 w5 h6 hs=>?_)
 refine lA 4 56 ([.bool false,.int .u64 0,.string ⟨#[]⟩,.int .u64 0,.string ⟨#[]⟩]) hs (fun b7 w8 h9 hs=>?_)
 refine lN (CG.seq (cR 4 [] mixed hs al_nil ?_))
 refine eO 0 5 [(2,0,5)] (qv a) hs ?_
 refine eO 1 6 [(1,0,5)] (qv b) hs ?_
 refine eC 2 7 hs (fun _ _ hs=>fNeg b aM _ _ hs.g) ?_
 rintro _ _ _ w10 h11 hs rfl
 refine eC 3 8 hs (fun _ _ hs=>fAdd a (-b) aM aM _ _ hs.g (hs.f.1)) ?_
 rintro _ _ _ w12 h13 hs rfl
 refine eD0 hs (fun w14 h15 hs=>?_)
 refine tP 4 0 0 (qc (a+(-b))) hs (fun w16 hs=>?_)
 exact tN (CG.ret (hs.ret [(0,0,5)] (qv (a+(-b))) (by rw[Rat.sub_eq_add_neg])))
theorem LQ.add {k l:Nat}{a b:Rat}(ha:LQ k a)(hb:LQ l b):LQ (k+l+1) (a+b):=by
  obtain ⟨ha1,ha2⟩:=ha
  obtain ⟨hb1,hb2⟩:=hb
  obtain ⟨q,hq⟩:∃ q,q=Nat.gcd a.den b.den:=⟨_,rfl⟩
  obtain ⟨up,hup⟩:∃ up,up=a.num*((b.den/q:Nat):Int)+b.num*((a.den/q:Nat):Int):=⟨_,rfl⟩
  obtain ⟨r,hr⟩:∃ r,r=Nat.gcd (iabs up) q:=⟨_,rfl⟩
  obtain ⟨hm1,hm2,hd1,hd2,hr0,hq0⟩:=rat_add a b q r up hq hup hr
  have haq:=wds_len_le (Nat.div_le_self a.den q) ha2
  have hbq:=wds_len_le (Nat.div_le_self b.den q) hb2
  have hbr:=wds_len_le (Nat.div_le_self b.den r) hb2
  have hx1:=len_imul a.num (b.den/q)
  have hx2:=len_imul b.num (a.den/q)
  have hdl:=@wds_len_mul (a.den/q) (b.den/r)
  refine ⟨?_,by rw[hm2];omega⟩
  rw[hm1]
  refine wds_len_le (iabs_div_le up r hd1) ?_
  rw[hup]
  exact Nat.le_trans (wds_len_mono (show iabs _≤iabs _+iabs _ from Int.natAbs_add_le _ _)) (wds_len_max oM oM)
theorem LQ.mul {k l:Nat}{a b:Rat}(ha:LQ k a)(hb:LQ l b):LQ (k+l) (a*b):=by
  obtain ⟨ha1,ha2⟩:=ha
  obtain ⟨hb1,hb2⟩:=hb
  obtain ⟨hm1,hm2,hd1,hd2,hq0,hr0⟩:=rat_mul a b _ _ rfl rfl
  refine ⟨?_,?_⟩
  · rw[hm1]
    have h1:=wds_len_le (iabs_div_le _ _ hd1) ha1
    have h2:=wds_len_le (iabs_div_le _ _ hd2) hb1
    exact Nat.le_trans (len_imul2 _ _) oM
  · rw[hm2]
    have h1:=wds_len_le (Nat.div_le_self a.den (Nat.gcd (iabs b.num) a.den)) ha2
    have h2:=wds_len_le (Nat.div_le_self b.den (Nat.gcd (iabs a.num) b.den)) hb2
    exact Nat.le_trans wds_len_mul oM
theorem LQ.mono {k l:Nat}{a:Rat}(h:LQ k a)(hkl:k≤l):LQ l a:=⟨Nat.le_trans h.1 hkl,Nat.le_trans h.2 hkl⟩
def cmpR (a b:Rat):Int:=cmpI (a.num*b.den) (b.num*a.den)
theorem cmpR_whole {a b:Rat}(h1:a.den=1)(h2:b.den=1):cmpI a.num b.num=cmpR a b:=by unfold cmpR;rw[h1,h2];simp
theorem cmpR_sign {a b:Rat}(h:(a.num.sign != b.num.sign)=true):cmpI a.num b.num=cmpR a b:=by
  have h:a.num.sign≠b.num.sign:=by simpa using h
  have ha:=a.den_pos
  have hb:=b.den_pos
  unfold cmpR cmpI
  rcases Int.lt_trichotomy a.num 0 with p|p|p<;>rcases Int.lt_trichotomy b.num 0 with q|q|q
  · exact absurd (by rw[Int.sign_eq_neg_one_of_neg p,Int.sign_eq_neg_one_of_neg q]) h
  · have:a.num*(b.den:Int)<0:=Int.mul_neg_of_neg_of_pos p oM
    rw[q];simp;rw[if_pos p,if_pos this]
  · have t1:a.num*(b.den:Int)<0:=Int.mul_neg_of_neg_of_pos p oM
    have t2:0<b.num*(a.den:Int):=Int.mul_pos q oM
    rw[if_pos oM,if_pos oM]
  · have:b.num*(a.den:Int)<0:=Int.mul_neg_of_neg_of_pos q oM
    rw[p];simp;rw[if_neg oM,if_pos q,if_neg oM,if_pos this]
  · exact absurd (by rw[p,q]) h
  · have:0<b.num*(a.den:Int):=Int.mul_pos q oM
    rw[p];simp;rw[if_pos q,if_pos this]
  · have t1:0<a.num*(b.den:Int):=Int.mul_pos p oM
    have t2:b.num*(a.den:Int)<0:=Int.mul_neg_of_neg_of_pos q oM
    rw[if_neg oM,if_pos oM,if_neg oM,if_pos oM]
  · have:0<a.num*(b.den:Int):=Int.mul_pos p oM
    rw[q];simp;rw[if_neg oM,if_pos p,if_neg oM,if_pos this]
  · exact absurd (by rw[Int.sign_eq_one_of_pos p,Int.sign_eq_one_of_pos q]) h
theorem fCmpWW (a b:Rat)(ha:LQ 100000000 a)(hb:LQ 100000000 b)(hwa:a.den=1)(hwb:b.den=1)(w:World)(h:Hp)(g:G w h) :
    Calls Tryz.prog 20 #[qv a,qv b] w (Ret w h fun v _=>v=.int .i64 (cmpR a b)):=by
 have hs:=SS.start g
 have ha_:=ha
 have hb_:=hb
 obtain ⟨ha1,ha2⟩:=ha_
 obtain ⟨hb1,hb2⟩:=hb_
 have hx1:=len_imul a.num b.den
 have hx2:=len_imul b.num a.den
 refine go Tryz.func20 [(0,qv a),(1,qv b)] rfl ?_
 refine cSL (lA 2 56 (qc a) hs (fun b1 w2 h3 hs=>?_))
 refine lA 3 56 (qc b) hs (fun b4 w5 h6 hs=>?_)
 refine lL hs [.v 4 (.int .i64 0)] (lN (CG.seq (CG.seq (cR 13 [] mixed hs al_nil ?_))))
 refine eO 0 5 [(1,0,5)] (qv a) hs ?_
 refine eC 1 6 hs (fun _ _ hs=>fIsWholeT a aM aM _ _ hs.g) ?_
 rintro _ _ _ w7 h8 hs rfl
 refine eV 2 7 (.bool true) ?_
 refine eO 3 8 [(0,0,5)] (qv b) hs ?_
 refine eC 4 9 hs (fun _ _ hs=>fIsWholeT b aM aM _ _ hs.g) ?_
 rintro _ _ _ w9 h10 hs rfl
 refine eV 5 10 (.bool true) ?_
 refine eV 6 11 (.bool true) ?_
 refine eG 7 12 ?_
 refine eG 8 13 ?_
 refine eG 9 14 ?_
 refine eG 10 15 ?_
 refine eG 11 16 ?_
 refine eV 12 17 (.bool true) ?_
 refine eD0 hs (fun w11 h12 hs=>?_)
 refine tN (cIT (cSL (lL hs [.v 18 (.pointer (some ⟨b1,0,none⟩)),.o 19 (iv a.num) 1 0 3,.v 20 (.pointer (some ⟨b4,0,none⟩)),.o 21 (iv b.num) 0 0 3] (lC 22 hs (wCmp a.num b.num aOM aOM _ _ hs.g) ?_))))
 rintro _ w13 h14 hs rfl
 exact lL hs [.m 4 22] (lN (CG.ret (hs.ret [] (.int .i64 (cmpI a.num b.num)) (congrArg (Value.int .i64) (by first|rfl|exact cmpR_whole hwa hwb|exact cmpR_sign ‹_›)))))
theorem fCmpNN (a b:Rat)(ha:LQ 100000000 a)(hb:LQ 100000000 b)(hwa:a.den≠1)(w:World)(h:Hp)(g:G w h) :
    Calls Tryz.prog 20 #[qv a,qv b] w (Ret w h fun v _=>v=.int .i64 (cmpR a b)):=by
 have hs:=SS.start g
 have ha_:=ha
 have hb_:=hb
 obtain ⟨ha1,ha2⟩:=ha_
 obtain ⟨hb1,hb2⟩:=hb_
 have hx1:=len_imul a.num b.den
 have hx2:=len_imul b.num a.den
 refine go Tryz.func20 [(0,qv a),(1,qv b)] rfl ?_
 refine cSL (lA 2 56 (qc a) hs (fun b1 w2 h3 hs=>?_))
 refine lA 3 56 (qc b) hs (fun b4 w5 h6 hs=>?_)
 refine lL hs [.v 4 (.int .i64 0)] (lN (CG.seq (CG.seq (cR 13 [] mixed hs al_nil ?_))))
 refine eO 0 5 [(1,0,5)] (qv a) hs ?_
 refine eC 1 6 hs (fun _ _ hs=>fIsWholeF a aM aM _ _ hs.g) ?_
 rintro _ _ _ w7 h8 hs rfl
 refine eV 2 7 (.bool false) ?_
 refine eG 3 8 ?_
 refine eG 4 9 ?_
 refine eV 5 10 (.bool false) ?_
 refine eV 6 11 (.bool false) ?_
 refine eO 7 12 [(1,0,5)] (qv a) hs ?_
 refine eO 9 14 [(0,0,5)] (qv b) hs ?_
 refine eC 8 13 hs (fun _ _ hs=>fSign a aM _ _ hs.g) ?_
 rintro _ _ _ w9 h10 hs rfl
 refine eC 10 15 hs (fun _ _ hs=>fSign b aM _ _ hs.g) ?_
 rintro _ _ _ w11 h12 hs rfl
 cases hb13:(((a.num).sign:Int) != ((b.num).sign:Int))
 ·
  have phb13:=eqOfBne hb13
  refine eB 11 16 hb13 ?_
  refine eV 12 17 (.bool false) ?_
  refine eD0 hs (fun w14 h15 hs=>?_)
  refine tN (cIF (CG.skipN (CG.seq (cR 11 [] mixed hs al_nil ?_))))
  refine eV 0 23 (.pointer (some ⟨b1,0,none⟩)) ?_
  refine eO 1 24 [(1,0,3)] (iv a.num) hs ?_
  refine eO 2 25 [(0,0,5)] (qv b) hs ?_
  refine eV 5 28 (.pointer (some ⟨b4,0,none⟩)) ?_
  refine eO 6 29 [(0,0,3)] (iv b.num) hs ?_
  refine eO 7 30 [(1,0,5)] (qv a) hs ?_
  refine eC 3 26 hs (fun _ _ hs=>fDen b aM _ _ hs.g) ?_
  rintro _ _ _ w16 h17 hs rfl
  refine eC 4 27 hs (fun _ _ hs=>fTimes a.num b.den aOM _ _ hs.g) ?_
  rintro _ _ _ w18 h19 hs rfl
  refine eC 8 31 hs (fun _ _ hs=>fDen a aM _ _ hs.g) ?_
  rintro _ _ _ w20 h21 hs rfl
  refine eC 9 32 hs (fun _ _ hs=>fTimes b.num a.den aOM _ _ hs.g) ?_
  rintro _ _ _ w22 h23 hs rfl
  refine eC 10 33 hs (fun _ _ hs=>wCmp (a.num*((b.den:Nat):Int)) (b.num*((a.den:Nat):Int)) aOM aOM _ _ hs.g) ?_
  rintro _ _ _ w24 h25 hs rfl
  refine eD0 hs (fun w26 h27 hs=>?_)
  refine tV 11 4 (.int .i64 (cmpI (a.num*((b.den:Nat):Int)) (b.num*((a.den:Nat):Int)))) ?_
  exact tN (CG.ret (hs.ret [] (.int .i64 (cmpI (a.num*((b.den:Nat):Int)) (b.num*((a.den:Nat):Int)))) (congrArg (Value.int .i64) (by first|rfl|exact cmpR_whole hwa hwb|exact cmpR_sign ‹_›))))
 have phb13:=neOfBne hb13
 refine eB 11 16 hb13 ?_
 refine eV 12 17 (.bool true) ?_
 refine eD0 hs (fun w28 h29 hs=>?_)
 refine tN (cIT (cSL (lL hs [.v 18 (.pointer (some ⟨b1,0,none⟩)),.o 19 (iv a.num) 1 0 3,.v 20 (.pointer (some ⟨b4,0,none⟩)),.o 21 (iv b.num) 0 0 3] (lC 22 hs (wCmp a.num b.num aOM aOM _ _ hs.g) ?_))))
 rintro _ w30 h31 hs rfl
 exact lL hs [.m 4 22] (lN (CG.ret (hs.ret [] (.int .i64 (cmpI a.num b.num)) (congrArg (Value.int .i64) (by first|rfl|exact cmpR_whole hwa hwb|exact cmpR_sign ‹_›)))))
end Go.Proofs.YtnbjahmpennmkaaGreatDoor
