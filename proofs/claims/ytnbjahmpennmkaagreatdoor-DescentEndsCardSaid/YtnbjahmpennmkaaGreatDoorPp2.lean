/- Laws and contracts that the card of this claim stands on, part 3. No condition of ours. -/
import Derived.Test.YtnbjahmpennmkaaGreatDoorPp0
import Derived.Test.YtnbjahmpennmkaaGreatDoorPp1
set_option maxRecDepth 100000
set_option maxHeartbeats 4000000
namespace Go.Proofs.YtnbjahmpennmkaaGreatDoor
open Go.RowKit
theorem rNatDiv (a:Nat)(A:Option Addr)(c:Nat)(hc:(lim a).length≤c)(b:Nat)(D:Option Addr)(d:Nat)(hd:(lim b).length≤d)(hLa:(lim a).length≤3000000000)(hLb:(lim b).length≤3000000000)(hb:0<b)(w:World)(h:Hp)(g:G w h)(hA:SlO 1 u32c 0 h A (lim a))(hD:SlO 1 u32c 0 h D (lim b)) :
    Calls Tryz.prog 120 #[.slice A (lim a).length c,.slice D (lim b).length d] w (Ret w h fun v h1=>∃ v1 v2,v=.tuple #[v1,v2]∧RN h1 v1 (a/b)∧RN h1 v2 (a%b)):=by
  have hp:=lim_pos.2 hb
  rcases Nat.lt_or_ge a b with h1|h1
  · exact rNatDivLt a A c hc b D d hd hLa hLb h1 w h g hA hD
  · rcases Nat.lt_or_ge (lim b).length 2 with h2|h2
    · exact rNatDivOne a A c hc b D d hd hLa hLb h1 oM w h g hA hD
    · exact rNatDivLong a A c hc b D d hd hLa hLb h1 h2 _ rfl w h g hA hD
theorem gcd_mod_swapL (x y:Nat):Nat.gcd y (x%y)=Nat.gcd x y:=by rw[Nat.gcd_comm y,←Nat.gcd_rec,Nat.gcd_comm]
theorem rNatGcd (a:Nat)(A:Option Addr)(c:Nat)(hc:(lim a).length≤c)(b:Nat)(D:Option Addr)(d:Nat)(hd:(lim b).length≤d)(hLa:(lim a).length≤3000000000)(hLb:(lim b).length≤3000000000)(w:World)(h:Hp)(g:G w h)(hA:SlO 1 u32c 0 h A (lim a))(hD:SlO 1 u32c 0 h D (lim b)) :
    Calls Tryz.prog 119 #[.slice A ((lim a).length) c,.slice D ((lim b).length) d] w (Ret w h fun v h1=>RN h1 v (Nat.gcd a b)):=by
 have hs:=SS.start g
 replace hs:=((hs.a_SlO hA).a_SlO hD)
 refine go Tryz.func119 [(0,.slice A ((lim a).length) c),(1,.slice D ((lim b).length) d)] rfl ?_
 refine cSL (lL hs [.v 4 (.slice none 0 0)] (lN (CG.seq (CG.block (cTo [(4,.slice none 0 0),(0,.slice A ((lim a).length) c),(1,.slice D ((lim b).length) d)] ?_)))))
 replace hs:=hs.add (K:=fun h_=>SlO 1 u32c 0 h_ D (lim b)) ((hs.f.1))
 replace hs:=hs.add (K:=fun h_=>SlO 1 u32c 0 h_ A (lim a)) ((hs.f.2.2.1))
 refine CG.loop (fun μ_ Γ w_=>∃ (x:Nat) (A1:Option Addr) (c1:Nat) (y:Nat) (A2:Option Addr) (c2:Nat) (h_:Hp),μ_=y∧Γ=[(4,.slice none 0 0),(0,.slice A1 ((lim x).length) c1),(1,.slice A2 ((lim y).length) c2)]∧SS w h w_ h_ [] [] [fun h_=>SlO 1 u32c 0 h_ A1 (lim x),fun h_=>SlO 1 u32c 0 h_ A2 (lim y),fun h_=>SlO 1 u32c 0 h_ D (lim b),fun h_=>SlO 1 u32c 0 h_ A (lim a)]∧((lim x).length≤c1)∧((lim y).length≤c2)∧((lim x).length≤3000000000)∧((lim y).length≤3000000000)∧(Nat.gcd x y=Nat.gcd a b)) _ ⟨a,A,c,b,D,d,h,rfl,rfl,hs.to _ _,hc,hd,hLa,hLb,rfl⟩ ?_
 rintro _ _ w1 ⟨x,A1,c1,y,A2,c2,h2,hm3,rfl,hs,hc1,hc2,hl1,hl2,hG⟩
 refine CG.seq (cSL (lL hs [.m 7 1,.v 8 (.int .i64 ((lim y).length:Nat))] ?_))
 cases hb4:(decide ((0:Int)<(((lim y).length:Nat):Int)))
 ·
  have phb4:=oF hb4
  refine lB 9 hb4 ?_
  refine lN (cIF (CG.exit ?_))
  show CG _ _ _ _ _ _ _ _
  refine cSL (lL hs [.m 18 0,.m 4 18] (lN (CG.ret ?_)))
  have hy0:y=0:=Nat.eq_zero_of_not_pos (fun h_=>by have:=lim_pos.2 h_;omega)
  exact hs.ret [] (.slice A1 ((lim x).length) c1) (by rw[←hG,hy0,Nat.gcd_zero_right];exact ⟨A1,c1,rfl,hc1,(hs.f.1)⟩)
 have phb4:=oT hb4
 refine lB 9 hb4 ?_
 refine lN (cIT (CG.skipN (CG.block (cSL (lL hs [.m 11 0,.m 12 1] (lC 13 hs (rNatDiv x A1 c1 hc1 y A2 c2 hc2 oM oM (lim_pos.1 oM) _ _ hs.g (hs.f.1) (hs.f.2.1)) ?_))))))
 rintro _ w5 h6 hs ⟨_,_,rfl,⟨Aq,cq,rfl,hcq,hq⟩,⟨Ar,cr,rfl,hcr,hr⟩⟩
 replace hs:=(hs.a_SlO hr)
 have hmd:=Nat.mod_lt x (lim_pos.1 (show 0<(lim y).length by omega))
 have hml:=lim_len_mono (show x%y≤y by omega)
 refine lL hs [.m 10 13,.v 14 (.slice Aq (lim (x/y)).length cq),.v 15 (.slice Ar ((lim (x%y)).length) cr),.m 5 14,.m 6 15] (lNS (lL hs [.m 16 1,.m 0 16] (lN (CG.listed (lL hs [.m 17 6,.m 1 17] (lD ?_))))))
 intro a_ ka
 have q7:SlO 1 u32c 0 h6 A2 (lim y):=(hs.f.2.2.1)
 have q8:SlO 1 u32c 0 h6 Ar (lim (x%y)):=(hs.f.1)
 have q9:(lim y).length≤c2:=hc2
 have q10:(lim (x%y)).length≤cr:=hcr
 have q11:(lim y).length≤3000000000:=hl2
 have q12:(lim (x%y)).length≤3000000000:=oM
 have q13:Nat.gcd y (x%y)=Nat.gcd a b:=(by rw[gcd_mod_swapL];exact hG)
 replace hs:=((hs.tl.tl.tl.add (K:=fun h_=>SlO 1 u32c 0 h_ Ar (lim (x%y))) q8).add (K:=fun h_=>SlO 1 u32c 0 h_ A2 (lim y)) q7)
 refine ⟨_,_,?_,⟨y,A2,c2,x%y,Ar,cr,h6,rfl,rfl,hs.to _ _,q9,q10,q11,q12,q13⟩,ka.to [(4,.slice none 0 0),(0,.slice A2 ((lim y).length) c2),(1,.slice Ar ((lim (x%y)).length) cr)] kR⟩
 omega
def u64c (x:Nat):List Value:=[.int .u64 (x:Nat)]
theorem tl_dec {l:List Nat}{m:Nat}(h:0<m)(h0:l.getD (m-1) 0=0):tl l m=tl l (m-1):=by
  obtain ⟨k,rfl⟩:∃ k,m=k+1:=⟨m-1,by omega⟩
  rw[tl_succ,if_pos (by simpa using h0)];rfl
theorem nWord (s:ByteArray)(hs8:8≤s.size)(w:World)(h:Hp)(g:G w h) :
    Calls Tryz.prog 125 #[.string s] w (Ret w h fun v _=>v=.int .u64 (wv s:Nat)):=by
 have hs:=SS.start g
 have b0:=bAt_lt s 0
 have b1:=bAt_lt s 1
 have b2:=bAt_lt s 2
 have b3:=bAt_lt s 3
 have b4:=bAt_lt s 4
 have b5:=bAt_lt s 5
 have b6:=bAt_lt s 6
 have b7:=bAt_lt s 7
 refine go Tryz.func125 [(0,.string s)] rfl ?_
 refine cSL (lL hs [.v 2 (.int .u64 0)] (lN (CG.seq (cR 38 [] mixed hs al_nil ?_))))
 refine eV 0 3 (.string s) ?_
 refine eV 1 4 (.int .u8 (bAt s 0:Nat)) ?_ (hv:=fun _=>opIdxS (tx:=9) (x:=.tmp 3) (i:=.const (.int .i64 0)) (k:=.i64) (s:=s) (n:=0) (j:=(0:Int)) kR kR kR kR oM oM _)
 refine eV 2 5 (.int .u64 (bAt s 0:Nat)) ?_ (hv:=fun _=>rint (n:=IntKind.wrap .u64 ((bAt s 0:Nat):Int)) kR (fitU64 oM oM))
 refine eV 3 6 (.string s) ?_
 refine eV 4 7 (.int .u8 (bAt s 1:Nat)) ?_ (hv:=fun _=>opIdxS (tx:=9) (x:=.tmp 6) (i:=.const (.int .i64 1)) (k:=.i64) (s:=s) (n:=1) (j:=(1:Int)) kR kR kR kR oM oM _)
 refine eV 5 8 (.int .u64 (bAt s 1:Nat)) ?_ (hv:=fun _=>rint (n:=IntKind.wrap .u64 ((bAt s 1:Nat):Int)) kR (fitU64 oM oM))
 refine eV 6 9 (.int .u64 ((bAt s 1)*256:Nat)) ?_ (hv:=fun _=>rint (n:=IntKind.wrap .u64 (((bAt s 1:Nat):Int)*256)) kR ((fitU64 oM oM).trans oM))
 refine eV 7 10 (.int .u64 (bAt s 0+bAt s 1*256:Nat)) ?_ (hv:=fun _=>rint (opOr (t:=50) (u:=50) (x:=.tmp 5) (y:=.tmp 9) (a:=(bAt s 0)) (b:=((bAt s 1)*256)) kR kR kR oM oM _) (by rw[or_lo 8 oM];first|done|omega))
 refine eV 8 11 (.string s) ?_
 refine eV 9 12 (.int .u8 (bAt s 2:Nat)) ?_ (hv:=fun _=>opIdxS (tx:=9) (x:=.tmp 11) (i:=.const (.int .i64 2)) (k:=.i64) (s:=s) (n:=2) (j:=(2:Int)) kR kR kR kR oM oM _)
 refine eV 10 13 (.int .u64 (bAt s 2:Nat)) ?_ (hv:=fun _=>rint (n:=IntKind.wrap .u64 ((bAt s 2:Nat):Int)) kR (fitU64 oM oM))
 refine eV 11 14 (.int .u64 ((bAt s 2)*65536:Nat)) ?_ (hv:=fun _=>rint (n:=IntKind.wrap .u64 (((bAt s 2:Nat):Int)*65536)) kR ((fitU64 oM oM).trans oM))
 refine eV 12 15 (.int .u64 (bAt s 0+bAt s 1*256+bAt s 2*65536:Nat)) ?_ (hv:=fun _=>rint (opOr (t:=50) (u:=50) (x:=.tmp 10) (y:=.tmp 14) (a:=(bAt s 0+bAt s 1*256)) (b:=((bAt s 2)*65536)) kR kR kR oM oM _) (by rw[or_lo 16 oM];first|done|omega))
 refine eV 13 16 (.string s) ?_
 refine eV 14 17 (.int .u8 (bAt s 3:Nat)) ?_ (hv:=fun _=>opIdxS (tx:=9) (x:=.tmp 16) (i:=.const (.int .i64 3)) (k:=.i64) (s:=s) (n:=3) (j:=(3:Int)) kR kR kR kR oM oM _)
 refine eV 15 18 (.int .u64 (bAt s 3:Nat)) ?_ (hv:=fun _=>rint (n:=IntKind.wrap .u64 ((bAt s 3:Nat):Int)) kR (fitU64 oM oM))
 refine eV 16 19 (.int .u64 ((bAt s 3)*16777216:Nat)) ?_ (hv:=fun _=>rint (n:=IntKind.wrap .u64 (((bAt s 3:Nat):Int)*16777216)) kR ((fitU64 oM oM).trans oM))
 refine eV 17 20 (.int .u64 (bAt s 0+bAt s 1*256+bAt s 2*65536+bAt s 3*16777216:Nat)) ?_ (hv:=fun _=>rint (opOr (t:=50) (u:=50) (x:=.tmp 15) (y:=.tmp 19) (a:=(bAt s 0+bAt s 1*256+bAt s 2*65536)) (b:=((bAt s 3)*16777216)) kR kR kR oM oM _) (by rw[or_lo 24 oM];first|done|omega))
 refine eV 18 21 (.string s) ?_
 refine eV 19 22 (.int .u8 (bAt s 4:Nat)) ?_ (hv:=fun _=>opIdxS (tx:=9) (x:=.tmp 21) (i:=.const (.int .i64 4)) (k:=.i64) (s:=s) (n:=4) (j:=(4:Int)) kR kR kR kR oM oM _)
 refine eV 20 23 (.int .u64 (bAt s 4:Nat)) ?_ (hv:=fun _=>rint (n:=IntKind.wrap .u64 ((bAt s 4:Nat):Int)) kR (fitU64 oM oM))
 refine eV 21 24 (.int .u64 ((bAt s 4)*4294967296:Nat)) ?_ (hv:=fun _=>rint (n:=IntKind.wrap .u64 (((bAt s 4:Nat):Int)*4294967296)) kR ((fitU64 oM oM).trans oM))
 refine eV 22 25 (.int .u64 (bAt s 0+bAt s 1*256+bAt s 2*65536+bAt s 3*16777216+bAt s 4*4294967296:Nat)) ?_ (hv:=fun _=>rint (opOr (t:=50) (u:=50) (x:=.tmp 20) (y:=.tmp 24) (a:=(bAt s 0+bAt s 1*256+bAt s 2*65536+bAt s 3*16777216)) (b:=((bAt s 4)*4294967296)) kR kR kR oM oM _) (by rw[or_lo 32 oM];first|done|omega))
 refine eV 23 26 (.string s) ?_
 refine eV 24 27 (.int .u8 (bAt s 5:Nat)) ?_ (hv:=fun _=>opIdxS (tx:=9) (x:=.tmp 26) (i:=.const (.int .i64 5)) (k:=.i64) (s:=s) (n:=5) (j:=(5:Int)) kR kR kR kR oM oM _)
 refine eV 25 28 (.int .u64 (bAt s 5:Nat)) ?_ (hv:=fun _=>rint (n:=IntKind.wrap .u64 ((bAt s 5:Nat):Int)) kR (fitU64 oM oM))
 refine eV 26 29 (.int .u64 ((bAt s 5)*1099511627776:Nat)) ?_ (hv:=fun _=>rint (n:=IntKind.wrap .u64 (((bAt s 5:Nat):Int)*1099511627776)) kR ((fitU64 oM oM).trans oM))
 refine eV 27 30 (.int .u64 (bAt s 0+bAt s 1*256+bAt s 2*65536+bAt s 3*16777216+bAt s 4*4294967296+bAt s 5*1099511627776:Nat)) ?_ (hv:=fun _=>rint (opOr (t:=50) (u:=50) (x:=.tmp 25) (y:=.tmp 29) (a:=(bAt s 0+bAt s 1*256+bAt s 2*65536+bAt s 3*16777216+bAt s 4*4294967296)) (b:=((bAt s 5)*1099511627776)) kR kR kR oM oM _) (by rw[or_lo 40 oM];first|done|omega))
 refine eV 28 31 (.string s) ?_
 refine eV 29 32 (.int .u8 (bAt s 6:Nat)) ?_ (hv:=fun _=>opIdxS (tx:=9) (x:=.tmp 31) (i:=.const (.int .i64 6)) (k:=.i64) (s:=s) (n:=6) (j:=(6:Int)) kR kR kR kR oM oM _)
 refine eV 30 33 (.int .u64 (bAt s 6:Nat)) ?_ (hv:=fun _=>rint (n:=IntKind.wrap .u64 ((bAt s 6:Nat):Int)) kR (fitU64 oM oM))
 refine eV 31 34 (.int .u64 ((bAt s 6)*281474976710656:Nat)) ?_ (hv:=fun _=>rint (n:=IntKind.wrap .u64 (((bAt s 6:Nat):Int)*281474976710656)) kR ((fitU64 oM oM).trans oM))
 refine eV 32 35 (.int .u64 (bAt s 0+bAt s 1*256+bAt s 2*65536+bAt s 3*16777216+bAt s 4*4294967296+bAt s 5*1099511627776+bAt s 6*281474976710656:Nat)) ?_ (hv:=fun _=>rint (opOr (t:=50) (u:=50) (x:=.tmp 30) (y:=.tmp 34) (a:=(bAt s 0+bAt s 1*256+bAt s 2*65536+bAt s 3*16777216+bAt s 4*4294967296+bAt s 5*1099511627776)) (b:=((bAt s 6)*281474976710656)) kR kR kR oM oM _) (by rw[or_lo 48 oM];first|done|omega))
 refine eV 33 36 (.string s) ?_
 refine eV 34 37 (.int .u8 (bAt s 7:Nat)) ?_ (hv:=fun _=>opIdxS (tx:=9) (x:=.tmp 36) (i:=.const (.int .i64 7)) (k:=.i64) (s:=s) (n:=7) (j:=(7:Int)) kR kR kR kR oM oM _)
 refine eV 35 38 (.int .u64 (bAt s 7:Nat)) ?_ (hv:=fun _=>rint (n:=IntKind.wrap .u64 ((bAt s 7:Nat):Int)) kR (fitU64 oM oM))
 refine eV 36 39 (.int .u64 ((bAt s 7)*72057594037927936:Nat)) ?_ (hv:=fun _=>rint (n:=IntKind.wrap .u64 (((bAt s 7:Nat):Int)*72057594037927936)) kR ((fitU64 oM oM).trans oM))
 refine eV 37 40 (.int .u64 (bAt s 0+bAt s 1*256+bAt s 2*65536+bAt s 3*16777216+bAt s 4*4294967296+bAt s 5*1099511627776+bAt s 6*281474976710656+bAt s 7*72057594037927936:Nat)) ?_ (hv:=fun _=>rint (opOr (t:=50) (u:=50) (x:=.tmp 35) (y:=.tmp 39) (a:=(bAt s 0+bAt s 1*256+bAt s 2*65536+bAt s 3*16777216+bAt s 4*4294967296+bAt s 5*1099511627776+bAt s 6*281474976710656)) (b:=((bAt s 7)*72057594037927936)) kR kR kR oM oM _) (by rw[or_lo 56 oM];first|done|omega))
 refine eD0 hs (fun w1 h2 hs=>?_)
 refine tV 38 2 (.int .u64 (bAt s 0+bAt s 1*256+bAt s 2*65536+bAt s 3*16777216+bAt s 4*4294967296+bAt s 5*1099511627776+bAt s 6*281474976710656+bAt s 7*72057594037927936:Nat)) ?_
 exact tN (CG.ret (hs.ret [] (.int .u64 (bAt s 0+bAt s 1*256+bAt s 2*65536+bAt s 3*16777216+bAt s 4*4294967296+bAt s 5*1099511627776+bAt s 6*281474976710656+bAt s 7*72057594037927936:Nat)) rfl))
theorem nTrim (A:Option Addr)(c:Nat)(l:List Nat)(hl:l.length≤1099511627776)(hc:l.length≤c)(w:World)(h:Hp)(g:G w h)(hA:SlO 1 u64c 0 h A l) :
    Calls Tryz.prog 138 #[.slice A l.length c] w (Ret w h fun v _=>v=.slice A (tl l l.length) c):=by
 have hs:=SS.start g
 replace hs:=(hs.a_SlO hA)
 refine go Tryz.func138 [(0,.slice A l.length c)] rfl ?_
 refine cSL (lL hs [.v 2 (.slice none 0 0)] (lN (CG.seq (CG.block (cTo [(2,.slice none 0 0),(0,.slice A l.length c)] ?_)))))
 refine CG.loop (fun μ_ Γ w_=>∃ (m:Nat) (h_:Hp),μ_=m∧Γ=[(2,.slice none 0 0),(0,.slice A m c)]∧SS w h w_ h_ [] [] [fun h_=>SlO 1 u64c 0 h_ A l]∧(m≤l.length)∧(tl l l.length=tl l m)) _ ⟨l.length,h,rfl,rfl,hs.to _ _,Nat.le_refl _,rfl⟩ ?_
 rintro _ _ w1 ⟨m,h2,hm3,rfl,hs,hm,ht⟩
 refine CG.seq (cSL (lL hs [.m 3 0,.v 4 (.int .i64 (m:Nat))] ?_))
 cases hb4:(decide ((0:Int)<((m:Nat):Int)))
 ·
  have phb4:=oF hb4
  refine lB 5 hb4 ?_
  refine lL hs [.m 6 5] (lG 7 ?_)
  refine lG 8 ?_
  refine lG 9 ?_
  refine lG 10 ?_
  refine lG 11 ?_
  refine lG 12 ?_
  refine lG 13 ?_
  refine lL hs [.v 14 (.bool false)] (lN (cIF (CG.exit ?_)))
  show CG _ _ _ _ _ _ _ _
  exact cSL (lL hs [.m 20 0,.m 2 20] (lN (CG.ret (hs.ret [] (.slice A m c) (by rw[ht,tl_at oM])))))
 have phb4:=oT hb4
 refine lB 5 hb4 ?_
 refine lL hs [.m 6 5,.m 7 0,.m 8 0,.v 9 (.int .i64 (m:Nat))] (lIn 10 ((m:Nat)-1) (m-1) ?_)
 refine lX 11 A m c 1 (m-1:Nat) (m-1) ((hs.f.1).ok oM) ?_
 refine lH 12 (.int .u64 (l.getD (m-1) 0:Nat)) hs ((hs.f.1).el (m-1) oM) ?_
 cases hb5:(((l.getD (m-1) 0:Nat):Int) == (0:Int))
 ·
  have phb5:=neOfBeq hb5
  refine lB 13 hb5 ?_
  refine lL hs [.v 14 (.bool false)] (lN (cIF (CG.exit ?_)))
  show CG _ _ _ _ _ _ _ _
  exact cSL (lL hs [.m 20 0,.m 2 20] (lN (CG.ret (hs.ret [] (.slice A m c) (by rw[ht,tl_at oM])))))
 have phb5:=eq_of_beq hb5
 refine lB 13 hb5 ?_
 refine lL hs [.v 14 (.bool true)] (lN (cIT (CG.skipN (CG.block (CG.listed (lL hs [.m 15 0,.m 16 0,.v 17 (.int .i64 (m:Nat))] (lIn 18 ((m:Nat)-1) (m-1) ?_)))))))
 refine lT 19 A m c 1 (m-1:Nat) (m-1) ?_
 refine lL hs [.m 0 19] (lD ?_)
 intro a_ ka
 have q6:(m-1)≤l.length:=by omega
 have q7:tl l l.length=tl l (m-1):=by rw[ht];exact tl_dec oM oM
 refine ⟨_,_,?_,⟨m-1,h2,rfl,rfl,hs.to _ _,q6,q7⟩,ka.to [(2,.slice none 0 0),(0,.slice A (m-1) c)] kR⟩
 omega
theorem ext_getD {l m:List Nat}(hl:l.length=m.length)(h:∀ j,j<l.length→l.getD j 0=m.getD j 0):l=m:=by
  apply List.ext_getElem hl
  intro i h1 h2
  have:=h i h1
  simpa [h1,h2] using this
theorem get_step {l m:List Nat}{i x:Nat}(hi:i<l.length)(h:∀ j,j<i→l.getD j 0=m.getD j 0)(hx:x=m.getD i 0):∀ j,j<i+1→(l.set i x).getD j 0=m.getD j 0:=fun j hj=>by
  rw[getD_set' hi]
  split
  · rename_i e;rw[←e];exact hx
  · exact h j oM
def NewW (h h1:Hp)(v:Value)(l:List Nat):Prop:=∃ b,v=.slice (some ⟨b,0,none⟩) l.length l.length∧h.size≤b∧h1[b]?=some (.cells (l.flatMap u64c).toArray 50 (0,0))∧SlO 1 u64c 0 h1 (some ⟨b,0,none⟩) l
theorem nWords0  (w:World)(h:Hp)(g:G w h) :
    Calls Tryz.prog 110 #[nv 0] w (Ret w h fun v _=>v=.slice none 0 0):=by
 have hs:=SS.start g
 refine go Tryz.func110 [(0,nv 0)] rfl ?_
 refine cSL (lA 1 52 ([.int .u64 0,.string ⟨#[]⟩]) hs (fun b1 w2 h3 hs=>?_))
 exact lL hs [.v 2 (.slice none 0 0)] (lN (CG.seq (cSL (lL hs [.v 5 (.pointer (some ⟨b1,1,none⟩)),.o 6 (.string ⟨#[]⟩) 0 1 1,.v 7 (.bool true),.m 8 7,.v 9 (.pointer (some ⟨b1,0,none⟩)),.o 10 (.int .u64 0) 0 0 1,.v 11 (.bool true),.v 12 (.bool true)] (lN (cIT (cSL (lL hs [.v 2 (.slice none 0 0)] (lN (CG.ret (hs.ret [] (.slice none 0 0) rfl)))))))))))
theorem size_ext (s:ByteArray)(k:Nat):(s.extract k s.size).size=s.size-k:=by
  simp[ByteArray.size_extract]
theorem wd_first {n L:Nat}(hL:0<L):∀ j,j<1→((List.replicate L 0).set 0 (n%18446744073709551616)).getD j 0=(wds n).getD j 0:=fun j hj=>by
  have:j=0:=by omega
  subst this
  rw[getD_set' (by simpa using hL),if_pos rfl]
  have:=lo_wds n
  unfold lo at this
  exact Int.ofNat.inj this
theorem nWordsS (n:Nat)(hn:0<n)(hl:(wds n).length≤1000000000)(hsm:n<18446744073709551616)(w:World)(h:Hp)(g:G w h) :
    Calls Tryz.prog 110 #[nv n] w (Ret w h fun v h1=>NewW h h1 v (wds n)):=by
 have hs:=SS.start g
 have hz:=hi_size n
 have hp:=wds_pos.2 hn
 have hlo:=lo_small hsm
 have hz1:=congrArg List.length (wds_small hn hsm)
 simp only[List.length_singleton] at hz1
 refine go Tryz.func110 [(0,nv n)] rfl ?_
 refine cSL (lA 1 52 (nc n) hs (fun b1 w2 h3 hs=>?_))
 refine lL hs [.v 2 (.slice none 0 0)] (lN (CG.seq (cSL (lL hs [.v 5 (.pointer (some ⟨b1,1,none⟩)),.o 6 (.string (hi n)) 0 1 1] (lV 7 (.bool true) ?_ (hr:=rb kR (strE (hi_nil hsm))))))))
 refine lL hs [.m 8 7,.v 9 (.pointer (some ⟨b1,0,none⟩)),.o 10 (.int .u64 (n%18446744073709551616:Nat)) 0 0 1] ?_
 have hb4:(((n%18446744073709551616:Nat):Int) == (0:Int))=false:=beqF oM
 have phb4:=neOfBeq hb4
 refine lB 11 hb4 ?_
 refine lL hs [.v 12 (.bool false)] (lN (cIF (CG.skipN (cSL (lL hs [.v 13 (.pointer (some ⟨b1,1,none⟩)),.o 14 (.string (hi n)) 0 1 1,.v 15 (.int .i64 ((hi n).size:Nat))] (lV 16 (.int .i64 (((hi n).size)/8:Nat)) ?_ (hr:=rint (opQuo (t:=3) (u:=3) (x:=.tmp 15) (y:=.const (.int .i64 8)) (k:=.i64) (a:=(((hi n).size:Nat):Int)) (b:=(8:Int)) kR kR kR oM _) (quoI64 ((hi n).size) 8 oM))))))))
 refine lIn 17 (1+(((hi n).size)/8:Nat)) ((wds n).length) ?_
 refine lK 18 50 ((wds n).length) 1 8 (.int .u64 0) u64c 0 hs (fun b5 w6 h7 hs=>?_)
 have hl8:(List.replicate ((wds n).length) 0).length=((wds n).length):=by simp
 refine lL hs [.m 3 18] (lNS (lL hs [.m 19 3,.v 20 (.pointer (some ⟨b1,0,none⟩)),.o 21 (.int .u64 (n%18446744073709551616:Nat)) 1 0 1] (lX 22 (some ⟨b5,0,none⟩) ((wds n).length) ((wds n).length) 1 0 0 rfl ?_)))
 refine lW 0 (List.replicate ((wds n).length) 0) u64c 1 0 (n%18446744073709551616) hs oM (fun w9 hs=>?_)
 have hl10:((List.replicate ((wds n).length) 0).set 0 (n%18446744073709551616)).length=((wds n).length):=by rw[List.length_set];exact hl8
 replace hs:=hs.to [⟨b5,50,((List.replicate ((wds n).length) 0).set 0 (n%18446744073709551616)).flatMap u64c⟩,⟨b1,52,nc n⟩] []
 refine lN (CG.seq (cSL (lL hs [.v 4 (.int .i64 1)] (lN (CG.block (cTo [(1,.pointer (some ⟨b1,0,none⟩)),(2,.slice none 0 0),(3,.slice (some ⟨b5,0,none⟩) ((wds n).length) ((wds n).length)),(4,.int .i64 1)] ?_))))))
 refine CG.loop (fun μ_ Γ w_=>∃ (i:Nat) (l:List Nat) (h_:Hp),μ_=(wds n).length-i∧Γ=[(1,.pointer (some ⟨b1,0,none⟩)),(2,.slice none 0 0),(3,.slice (some ⟨b5,0,none⟩) ((wds n).length) ((wds n).length)),(4,.int .i64 (i:Nat))]∧SS w h w_ h_ [⟨b5,50,(l).flatMap u64c⟩,⟨b1,52,nc n⟩] [] []∧(1≤i)∧(i≤(wds n).length)∧(l.length=(wds n).length)∧(∀ j,j<i→l.getD j 0=(wds n).getD j 0)) _ ⟨1,(List.replicate ((wds n).length) 0).set 0 (n%18446744073709551616),h7,rfl,rfl,hs.to _ _,Nat.le_refl _,by omega,hl10,wd_first oM⟩ ?_
 rintro _ _ w11 ⟨i,l,h12,hm13,rfl,hs,hi1,hi2,hll,hg⟩
 refine CG.seq (cSL (lL hs [.m 23 4,.m 24 3,.v 25 (.int .i64 (((wds n).length):Nat))] ?_))
 cases hb14:(decide (((i:Nat):Int)<((((wds n).length):Nat):Int)))
 ·
  have phb14:=oF hb14
  refine lB 26 hb14 ?_
  refine lN (cIF (CG.exit ?_))
  show CG _ _ _ _ _ _ _ _
  refine cSL (lL hs [.m 39 3,.m 2 39] (lN (CG.ret ?_)))
  have hiL:i=(wds n).length:=by omega
  have hlw:l=wds n:=ext_getD oM (fun j hj=>hg j oM)
  rw[hlw] at hs
  obtain ⟨h15,hs,sg16,lo17,bc18⟩:=hs.pub 0
  replace hs:=(hs.to [⟨b1,52,nc n⟩] []).a_SlO (SlO.of_flat (sz:=1) (f:=u64c) (d:=0) (b:=b5) (o:=0) (l:=wds n) (fun _=>rfl) sg16)
  exact hs.ret [] (.slice (some ⟨b5,0,none⟩) ((wds n).length) ((wds n).length)) (⟨b5,rfl,lo17,bc18,(hs.f.1)⟩)
 have phb14:=oT hb14
 refine lB 26 hb14 ?_
 refine lN (cIT (CG.skipN (CG.seq (CG.block (CG.listed (lL hs [.m 29 3,.m 30 4,.v 31 (.pointer (some ⟨b1,1,none⟩)),.o 32 (.string (hi n)) 1 1 1,.m 33 4] (lI 34 ((i:Nat)-1) ?_)))))))
 refine lIn 35 (8*((i:Nat)-1)) (8*(i-1)) ?_
 refine lV 36 (.string ((hi n).extract (8*(i-1)) (hi n).size)) ?_ (hr:=opSlS (tx:=9) (x:=.tmp 32) (i:=.tmp 35) (k:=.i64) (s:=hi n) (n:=(8*(i-1))) (j:=((8*(i-1):Nat):Int)) kR kR kR kR oM oM _)
 refine lC 37 hs (nWord ((hi n).extract (8*(i-1)) (hi n).size) (by rw[size_ext];omega) _ _ hs.g) ?_
 rintro _ w20 h21 hs rfl
 refine lX 38 (some ⟨b5,0,none⟩) ((wds n).length) ((wds n).length) 1 (i:Nat) i rfl ?_
 refine lW 0 l u64c 1 i (wv ((hi n).extract (8*(i-1)) (hi n).size):Nat) hs oM (fun w22 hs=>?_)
 have hl23:((l).set i (wv ((hi n).extract (8*(i-1)) (hi n).size):Nat)).length=((wds n).length):=by rw[List.length_set];exact hll
 replace hs:=hs.to [⟨b5,50,((l).set i (wv ((hi n).extract (8*(i-1)) (hi n).size):Nat)).flatMap u64c⟩,⟨b1,52,nc n⟩] []
 refine lN (CG.listed (lL hs [.m 27 4] (lIn 28 ((i:Nat)+1) (i+1) ?_)))
 refine lL hs [.m 4 28] (lD ?_)
 intro a_ ka
 have q24:1≤(i+1):=by omega
 have q25:(i+1)≤(wds n).length:=by omega
 have q26:((l).set i (wv ((hi n).extract (8*(i-1)) (hi n).size):Nat)).length=(wds n).length:=hl23
 have q27:∀ j,j<(i+1)→((l).set i (wv ((hi n).extract (8*(i-1)) (hi n).size):Nat)).getD j 0=(wds n).getD j 0:=get_step oM hg (by rw[wv_ext n (i-1) oM,show i-1+1=i by omega])
 refine ⟨_,_,?_,⟨i+1,(l).set i (wv ((hi n).extract (8*(i-1)) (hi n).size):Nat),h21,rfl,rfl,hs.to _ _,q24,q25,q26,q27⟩,ka.to [(1,.pointer (some ⟨b1,0,none⟩)),(2,.slice none 0 0),(3,.slice (some ⟨b5,0,none⟩) ((wds n).length) ((wds n).length)),(4,.int .i64 ((i+1):Nat))] kR⟩
 omega
theorem nWordsB (n:Nat)(hn:0<n)(hl:(wds n).length≤1000000000)(hbg:18446744073709551616≤n)(w:World)(h:Hp)(g:G w h) :
    Calls Tryz.prog 110 #[nv n] w (Ret w h fun v h1=>NewW h h1 v (wds n)):=by
 have hs:=SS.start g
 have hz:=hi_size n
 have hp:=wds_pos.2 hn
 refine go Tryz.func110 [(0,nv n)] rfl ?_
 refine cSL (lA 1 52 (nc n) hs (fun b1 w2 h3 hs=>?_))
 refine lL hs [.v 2 (.slice none 0 0)] (lN (CG.seq (cSL (lL hs [.v 5 (.pointer (some ⟨b1,1,none⟩)),.o 6 (.string (hi n)) 0 1 1] (lV 7 (.bool false) ?_ (hr:=rb kR (strN (hi_ne hbg))))))))
 refine lL hs [.m 8 7] (lG 9 ?_)
 refine lG 10 ?_
 refine lG 11 ?_
 refine lL hs [.v 12 (.bool false)] (lN (cIF (CG.skipN (cSL (lL hs [.v 13 (.pointer (some ⟨b1,1,none⟩)),.o 14 (.string (hi n)) 0 1 1,.v 15 (.int .i64 ((hi n).size:Nat))] (lV 16 (.int .i64 (((hi n).size)/8:Nat)) ?_ (hr:=rint (opQuo (t:=3) (u:=3) (x:=.tmp 15) (y:=.const (.int .i64 8)) (k:=.i64) (a:=(((hi n).size:Nat):Int)) (b:=(8:Int)) kR kR kR oM _) (quoI64 ((hi n).size) 8 oM))))))))
 refine lIn 17 (1+(((hi n).size)/8:Nat)) ((wds n).length) ?_
 refine lK 18 50 ((wds n).length) 1 8 (.int .u64 0) u64c 0 hs (fun b4 w5 h6 hs=>?_)
 have hl7:(List.replicate ((wds n).length) 0).length=((wds n).length):=by simp
 refine lL hs [.m 3 18] (lNS (lL hs [.m 19 3,.v 20 (.pointer (some ⟨b1,0,none⟩)),.o 21 (.int .u64 (n%18446744073709551616:Nat)) 1 0 1] (lX 22 (some ⟨b4,0,none⟩) ((wds n).length) ((wds n).length) 1 0 0 rfl ?_)))
 refine lW 0 (List.replicate ((wds n).length) 0) u64c 1 0 (n%18446744073709551616) hs oM (fun w8 hs=>?_)
 have hl9:((List.replicate ((wds n).length) 0).set 0 (n%18446744073709551616)).length=((wds n).length):=by rw[List.length_set];exact hl7
 replace hs:=hs.to [⟨b4,50,((List.replicate ((wds n).length) 0).set 0 (n%18446744073709551616)).flatMap u64c⟩,⟨b1,52,nc n⟩] []
 refine lN (CG.seq (cSL (lL hs [.v 4 (.int .i64 1)] (lN (CG.block (cTo [(1,.pointer (some ⟨b1,0,none⟩)),(2,.slice none 0 0),(3,.slice (some ⟨b4,0,none⟩) ((wds n).length) ((wds n).length)),(4,.int .i64 1)] ?_))))))
 refine CG.loop (fun μ_ Γ w_=>∃ (i:Nat) (l:List Nat) (h_:Hp),μ_=(wds n).length-i∧Γ=[(1,.pointer (some ⟨b1,0,none⟩)),(2,.slice none 0 0),(3,.slice (some ⟨b4,0,none⟩) ((wds n).length) ((wds n).length)),(4,.int .i64 (i:Nat))]∧SS w h w_ h_ [⟨b4,50,(l).flatMap u64c⟩,⟨b1,52,nc n⟩] [] []∧(1≤i)∧(i≤(wds n).length)∧(l.length=(wds n).length)∧(∀ j,j<i→l.getD j 0=(wds n).getD j 0)) _ ⟨1,(List.replicate ((wds n).length) 0).set 0 (n%18446744073709551616),h6,rfl,rfl,hs.to _ _,Nat.le_refl _,by omega,hl9,wd_first oM⟩ ?_
 rintro _ _ w10 ⟨i,l,h11,hm12,rfl,hs,hi1,hi2,hll,hg⟩
 refine CG.seq (cSL (lL hs [.m 23 4,.m 24 3,.v 25 (.int .i64 (((wds n).length):Nat))] ?_))
 cases hb13:(decide (((i:Nat):Int)<((((wds n).length):Nat):Int)))
 ·
  have phb13:=oF hb13
  refine lB 26 hb13 ?_
  refine lN (cIF (CG.exit ?_))
  show CG _ _ _ _ _ _ _ _
  refine cSL (lL hs [.m 39 3,.m 2 39] (lN (CG.ret ?_)))
  have hiL:i=(wds n).length:=by omega
  have hlw:l=wds n:=ext_getD oM (fun j hj=>hg j oM)
  rw[hlw] at hs
  obtain ⟨h14,hs,sg15,lo16,bc17⟩:=hs.pub 0
  replace hs:=(hs.to [⟨b1,52,nc n⟩] []).a_SlO (SlO.of_flat (sz:=1) (f:=u64c) (d:=0) (b:=b4) (o:=0) (l:=wds n) (fun _=>rfl) sg15)
  exact hs.ret [] (.slice (some ⟨b4,0,none⟩) ((wds n).length) ((wds n).length)) (⟨b4,rfl,lo16,bc17,(hs.f.1)⟩)
 have phb13:=oT hb13
 refine lB 26 hb13 ?_
 refine lN (cIT (CG.skipN (CG.seq (CG.block (CG.listed (lL hs [.m 29 3,.m 30 4,.v 31 (.pointer (some ⟨b1,1,none⟩)),.o 32 (.string (hi n)) 1 1 1,.m 33 4] (lI 34 ((i:Nat)-1) ?_)))))))
 refine lIn 35 (8*((i:Nat)-1)) (8*(i-1)) ?_
 refine lV 36 (.string ((hi n).extract (8*(i-1)) (hi n).size)) ?_ (hr:=opSlS (tx:=9) (x:=.tmp 32) (i:=.tmp 35) (k:=.i64) (s:=hi n) (n:=(8*(i-1))) (j:=((8*(i-1):Nat):Int)) kR kR kR kR oM oM _)
 refine lC 37 hs (nWord ((hi n).extract (8*(i-1)) (hi n).size) (by rw[size_ext];omega) _ _ hs.g) ?_
 rintro _ w19 h20 hs rfl
 refine lX 38 (some ⟨b4,0,none⟩) ((wds n).length) ((wds n).length) 1 (i:Nat) i rfl ?_
 refine lW 0 l u64c 1 i (wv ((hi n).extract (8*(i-1)) (hi n).size):Nat) hs oM (fun w21 hs=>?_)
 have hl22:((l).set i (wv ((hi n).extract (8*(i-1)) (hi n).size):Nat)).length=((wds n).length):=by rw[List.length_set];exact hll
 replace hs:=hs.to [⟨b4,50,((l).set i (wv ((hi n).extract (8*(i-1)) (hi n).size):Nat)).flatMap u64c⟩,⟨b1,52,nc n⟩] []
 refine lN (CG.listed (lL hs [.m 27 4] (lIn 28 ((i:Nat)+1) (i+1) ?_)))
 refine lL hs [.m 4 28] (lD ?_)
 intro a_ ka
 have q23:1≤(i+1):=by omega
 have q24:(i+1)≤(wds n).length:=by omega
 have q25:((l).set i (wv ((hi n).extract (8*(i-1)) (hi n).size):Nat)).length=(wds n).length:=hl22
 have q26:∀ j,j<(i+1)→((l).set i (wv ((hi n).extract (8*(i-1)) (hi n).size):Nat)).getD j 0=(wds n).getD j 0:=get_step oM hg (by rw[wv_ext n (i-1) oM,show i-1+1=i by omega])
 refine ⟨_,_,?_,⟨i+1,(l).set i (wv ((hi n).extract (8*(i-1)) (hi n).size):Nat),h20,rfl,rfl,hs.to _ _,q23,q24,q25,q26⟩,ka.to [(1,.pointer (some ⟨b1,0,none⟩)),(2,.slice none 0 0),(3,.slice (some ⟨b4,0,none⟩) ((wds n).length) ((wds n).length)),(4,.int .i64 ((i+1):Nat))] kR⟩
 omega
theorem nWords (n:Nat)(hn:0<n)(hl:(wds n).length≤1000000000)(w:World)(h:Hp)(g:G w h):Calls Tryz.prog 110 #[nv n] w (Ret w h fun v h1=>NewW h h1 v (wds n)):=by
  rcases Nat.lt_or_ge n 18446744073709551616 with hs|hs
  · exact nWordsS n hn hl hs w h g
  · exact nWordsB n hn hl hs w h g
open Go.RowKit Go.Shelf
def lay167:Go.Shelf.Ren:=⟨fun|167=>140|240=>157|276=>160|n=>n,fun|0=>0|4=>4|5=>5|9=>9|20=>20|37=>162|70=>183|72=>185|75=>188|164=>202|80=>190|n=>n,fun n=>n⟩
theorem laid167:Go.Proofs.Lays.n167 Tryz.prog lay167:={
  mixed:=by kernel_rfl
  f167:=Tryz.func140.trans (congrArg some kR)
  f240:=Tryz.func157.trans (congrArg some kR)
  f276:=Tryz.func160.trans (congrArg some kR)
  t0:=Tryz.underlying0
  a0:=Tryz.isAgg0
  z0:=Tryz.sizeOf0
  v0:=Tryz.zeroValue0
  t4:=Tryz.underlying4
  a4:=Tryz.isAgg4
  z4:=Tryz.sizeOf4
  v4:=Tryz.zeroValue4
  t5:=Tryz.underlying5
  a5:=Tryz.isAgg5
  z5:=Tryz.sizeOf5
  v5:=Tryz.zeroValue5
  t9:=Tryz.underlying9
  a9:=Tryz.isAgg9
  z9:=Tryz.sizeOf9
  v9:=Tryz.zeroValue9
  t20:=Tryz.underlying20
  a20:=Tryz.isAgg20
  z20:=Tryz.sizeOf20
  v20:=Tryz.zeroValue20
  t37:=Tryz.underlying162
  a37:=Tryz.isAgg162
  z37:=Tryz.sizeOf162
  v37:=Tryz.zeroValue162
  t70:=Tryz.underlying183
  a70:=Tryz.isAgg183
  z70:=Tryz.sizeOf183
  v70:=Tryz.zeroValue183
  t72:=Tryz.underlying185
  a72:=Tryz.isAgg185
  z72:=Tryz.sizeOf185
  v72:=Tryz.zeroValue185
  t75:=Tryz.underlying188
  a75:=Tryz.isAgg188
  z75:=Tryz.sizeOf188
  v75:=Tryz.zeroValue188
  t164:=Tryz.underlying202
  a164:=Tryz.isAgg202
  z164:=Tryz.sizeOf202
  v164:=Tryz.zeroValue202 }
theorem extra167:Builder.Extra Tryz.prog lay167:={
  sizeBuilder:=by kernel_rfl
  liesBuilder:=by kernel_rfl
  t5:=Tryz.underlying5
  a5:=Tryz.isAgg5
  z5:=Tryz.sizeOf5
  v5:=Tryz.zeroValue5
  infoByte:=by kernel_rfl
  cellsByte:=by kernel_rfl
  sizeByte:=by kernel_rfl
  neB5:=by decide }
theorem nFrom (A:Option Addr)(c:Nat)(l:List Nat)(hd:Wd l)(hl:l.length≤1099511627776)(hc:l.length≤c)(w:World)(h:Hp)(g:G w h)(hA:SlO 1 u64c 0 h A l) :
    Calls Tryz.prog 108 #[.slice A l.length c] w (Ret w h fun v _=>v=nv (wval l)):=by
 have hs:=SS.start g
 replace hs:=(hs.a_SlO hA)
 have htl:=tl_le l l.length
 have hdl:(l.drop 1).length=l.length-1:=List.length_drop
 refine go Tryz.func108 [(0,.slice A l.length c)] rfl ?_
 refine cSL (lA 2 52 ([.int .u64 0,.string ⟨#[]⟩]) hs (fun b1 w2 h3 hs=>?_))
 refine lNS (lL hs [.m 7 0] (lC 8 hs (nTrim A c l hl hc _ _ hs.g (hs.f.1)) ?_))
 rintro _ w4 h5 hs rfl
 refine lL hs [.m 0 8] (lN (CG.seq (cSL (lL hs [.m 9 0,.v 10 (.int .i64 ((tl l l.length):Nat))] (lN (CG.block (cSL ?_)))))))
 cases hb6:((((tl l l.length):Nat):Int) == (0:Int))
 ·
  have phb6:=neOfBeq hb6
  refine lB 12 hb6 ?_
  refine lL hs [.m 11 12] (lN (cIF (cSL ?_)))
  cases hb7:((((tl l l.length):Nat):Int) == (1:Int))
  ·
   have phb7:=neOfBeq hb7
   refine lB 15 hb7 ?_
   refine lL hs [.m 14 15] (lN (cIF (CG.skipN (cSL ?_))))
   have hsB:=hs
   refine lBd 3 185 [.pointer none,.slice none 0 0] hs (fun w8 hx hxs hbk=>?_)
   obtain ⟨h9,hs,-⟩:=hsB.liftJ hx
   refine lNS (lL hs [.m 20 0,.v 21 (.int .i64 ((tl l l.length):Nat))] (lIn 22 (((tl l l.length):Nat)-1) ((tl l l.length)-1) ?_))
   refine lIn 23 (8*((tl l l.length)-1:Nat)) (8*((tl l l.length)-1)) ?_
   refine lBc 24 hsB hx (Tryz.Builder_Grow_fresh w4.heap.size w4.heap.size (8*((tl l l.length)-1):Nat) _ (Nat.le_refl _) hbk hxs oM) (fun w10 h11 hs hx_ hq_=>?_)
   clear hx
   have hx:=hx_;clear hx_
   have hib:Lib.IsBuilder 185 5 w4.heap.size w4.heap.size (Lib.byteCells (((l.drop 1).take 0).flatMap b8)) _:=.inr hq_
   refine lN (CG.seq (cSL (lL hs [.m 25 0] (lF 26 A (tl l l.length) c 1 1 1 ?_))))
   replace hs:=hs.a_SlO (hs.f.1.drop 1 c hc)
   replace hsB:=hsB.a_SlO (hsB.f.1.drop 1 c hc)
   refine lL hs [.v 27 (.int .i64 ((tl l l.length)-1:Nat)),.v 28 (.int .i64 0)] (lN (CG.block (cTo [(0,.slice A (tl l l.length) c),(2,.pointer (some ⟨b1,0,none⟩)),(3,.pointer (some ⟨w4.heap.size,0,none⟩)),(26,.slice (if c=1 then A else A.map (·.add (1*1))) ((tl l l.length)-1) (c-1)),(27,.int .i64 ((tl l l.length)-1:Nat)),(28,.int .i64 0)] ?_)))
   refine CG.loop (fun μ_ Γ w_=>∃ (k:Nat) (h_:Hp),μ_=(tl l l.length)-k∧Γ=[(0,.slice A (tl l l.length) c),(2,.pointer (some ⟨b1,0,none⟩)),(3,.pointer (some ⟨w4.heap.size,0,none⟩)),(26,.slice (if c=1 then A else A.map (·.add (1*1))) ((tl l l.length)-1) (c-1)),(27,.int .i64 ((tl l l.length)-1:Nat)),(28,.int .i64 (k:Nat))]∧SS w h w_ h_ [⟨b1,52,[.int .u64 0,.string ⟨#[]⟩]⟩] [] [fun h_=>SlO 1 u64c 0 h_ (if c=1 then A else A.map (·.add (1*1))) (l.drop 1),fun h_=>SlO 1 u64c 0 h_ A l]∧(k≤(tl l l.length)-1)∧(Ext w4 w_)∧(Lib.IsBuilder 185 5 w4.heap.size w4.heap.size (Lib.byteCells (((l.drop 1).take k).flatMap b8)) w_)) _ ⟨0,h11,rfl,rfl,hs.to _ _,Nat.zero_le _,hx,hib⟩ ?_
   rintro _ _ w12 ⟨k,h13,hm14,rfl,hs,hk,hx,hib⟩
   have hxk:(l.drop 1).getD k 0<18446744073709551616:=Dg.getD (Dg.drop hd 1) kD k
   refine cSL ?_
   cases hb15:(decide (((k:Nat):Int)<(((tl l l.length)-1:Nat):Int)))
   ·
    have phb15:=oF hb15
    refine lB 29 hb15 ?_
    refine lN (CG.seq (cIF (CG.exit ?_)))
    show CG _ _ _ _ _ _ _ _
    refine CG.seq (cRa ⟨betw w4.heap.size w12.heap.size,none⟩ 5 mixed ?_)
    obtain ⟨h16,hs,hj⟩:=hsB.liftJ hx.drew
    refine aV 0 43 (.slice A (tl l l.length) c) ?_
    refine aX 1 44 A (tl l l.length) c 1 0 0 ((hs.f.2.1).ok oM) ?_
    refine aH 2 45 (.int .u64 (l.getD 0 0:Nat)) hs ((hs.f.2.1).el 0 oM) ?_ (fun b hb=>hj b (mem_betw.1 hb).1 (mem_betw.1 hb).2)
    refine aC 3 46 ((Tryz.Builder_String_any w4.heap.size w4.heap.size (((l.drop 1).take k).flatMap b8) _ (Below_kept hib ((Ext.refl _).drew)) hx.size).mono fun e_ w17 ⟨he_,hb_⟩=>⟨_,he_,mo_below hb_,?_⟩)
    obtain ⟨h18,hs,-⟩:=hsB.liftJ (Below.trans hx.drew hb_)
    refine aV 4 47 (.agg #[.int .u64 (l.getD 0 0:Nat),.string (⟨(((l.drop 1).take k).flatMap b8).toArray⟩)]) ?_
    refine tP 5 0 0 ([.int .u64 (l.getD 0 0:Nat),.string (⟨(((l.drop 1).take k).flatMap b8).toArray⟩)]) hs (fun w19 hs=>?_)
    refine tN (CG.ret ?_)
    have hkn:k=(tl l l.length)-1:=by omega
    exact hs.ret [(0,0,2)] (.agg #[.int .u64 (l.getD 0 0:Nat),.string (⟨(((l.drop 1).take k).flatMap b8).toArray⟩)]) (by rw[hkn];exact nv_many hd oM)
   have phb15:=oT hb15
   refine lB 29 hb15 ?_
   refine lN (CG.seq (cIT (CG.skipN (CG.seq (CG.block (cSL (lX 30 (if c=1 then A else A.map (·.add (1*1))) ((tl l l.length)-1) (c-1) 1 (k:Nat) k ((hs.f.1).ok oM) ?_)))))))
   refine lH 31 (.int .u64 ((l.drop 1).getD k 0:Nat)) hs ((hs.f.1).el k oM) ?_
   refine lL hs [.m 5 31] (lNS (lL hs [.v 32 (.int .i64 0)] (lN (CG.block (cTo [(0,.slice A (tl l l.length) c),(2,.pointer (some ⟨b1,0,none⟩)),(3,.pointer (some ⟨w4.heap.size,0,none⟩)),(26,.slice (if c=1 then A else A.map (·.add (1*1))) ((tl l l.length)-1) (c-1)),(27,.int .i64 ((tl l l.length)-1:Nat)),(28,.int .i64 (k:Nat)),(5,.int .u64 ((l.drop 1).getD k 0:Nat)),(32,.int .i64 0)] ?_)))))
   refine CG.loop (fun μ_ Γ w_=>∃ (m:Nat) (h_:Hp),μ_=8-m∧Γ=[(0,.slice A (tl l l.length) c),(2,.pointer (some ⟨b1,0,none⟩)),(3,.pointer (some ⟨w4.heap.size,0,none⟩)),(26,.slice (if c=1 then A else A.map (·.add (1*1))) ((tl l l.length)-1) (c-1)),(27,.int .i64 ((tl l l.length)-1:Nat)),(28,.int .i64 (k:Nat)),(5,.int .u64 ((l.drop 1).getD k 0:Nat)),(32,.int .i64 (m:Nat))]∧SS w h w_ h_ [⟨b1,52,[.int .u64 0,.string ⟨#[]⟩]⟩] [] [fun h_=>SlO 1 u64c 0 h_ (if c=1 then A else A.map (·.add (1*1))) (l.drop 1),fun h_=>SlO 1 u64c 0 h_ A l]∧(m≤8)∧(Ext w4 w_)∧(Lib.IsBuilder 185 5 w4.heap.size w4.heap.size (Lib.byteCells (((l.drop 1).take k).flatMap b8++(b8 ((l.drop 1).getD k 0)).take m)) w_)) _ ⟨0,h13,rfl,rfl,hs.to _ _,Nat.zero_le _,hx,(by simpa using hib)⟩ ?_
   rintro _ _ w20 ⟨m,h21,hm22,rfl,hs,hm,hx,hib2⟩
   refine cSL ?_
   cases hb23:(decide (((m:Nat):Int)<(8:Int)))
   ·
    have phb23:=oF hb23
    refine lB 33 hb23 ?_
    refine lN (CG.seq (cIF (CG.exit ?_)))
    show CG _ _ _ _ _ _ _ _
    refine CG.listed (lIn 42 ((k:Nat)+1) (k+1) ?_)
    refine lL hs [.m 28 42] (lD ?_)
    intro a_ ka
    have q24:(k+1)≤(tl l l.length)-1:=by omega
    have q25:Ext w4 w20:=hx
    have q26:Lib.IsBuilder 185 5 w4.heap.size w4.heap.size (Lib.byteCells (((l.drop 1).take (k+1)).flatMap b8)) w20:=(by rw[show m=8 by omega,bytes_row oM] at hib2;exact hib2)
    refine ⟨_,_,?_,⟨k+1,h21,rfl,rfl,hs.to _ _,q24,q25,q26⟩,ka.to [(0,.slice A (tl l l.length) c),(2,.pointer (some ⟨b1,0,none⟩)),(3,.pointer (some ⟨w4.heap.size,0,none⟩)),(26,.slice (if c=1 then A else A.map (·.add (1*1))) ((tl l l.length)-1) (c-1)),(27,.int .i64 ((tl l l.length)-1:Nat)),(28,.int .i64 ((k+1):Nat))] kR⟩
    omega
   have phb23:=oT hb23
   refine lB 33 hb23 ?_
   refine lN (CG.seq (cIT (CG.skipN (CG.seq (CG.block (cSL (lL hs [.m 34 32,.m 6 34] (lN (CG.listed (lL hs [.m 35 5,.m 36 6] (lIn 37 (8*(m:Nat)) (8*m) ?_)))))))))))
   refine lV 38 (.int .u64 (((l.drop 1).getD k 0)/2^(8*m):Nat)) ?_ (hr:=opShrN (t:=50) (u:=3) (x:=.tmp 35) (y:=.tmp 37) (ky:=.i64) (a:=((l.drop 1).getD k 0)) (n:=(8*m)) kR kR kR oM _)
   refine lV 39 (.int .u8 ((((l.drop 1).getD k 0)/2^(8*m):Nat)%256:Nat)) ?_ (hr:=rint (n:=IntKind.wrap .u8 ((((l.drop 1).getD k 0)/2^(8*m):Nat):Int)) kR (wrU8 _))
   refine lBc 40 hsB hx (Any.Builder_WriteByte laid167 extra167 w4.heap.size w4.heap.size _ ((((l.drop 1).getD k 0)/2^(8*m)%256:Nat):Int) _ hib2 (bytes_len oM oM oM) hx.size) (fun w27 h28 hs hx_ hq_=>?_)
   clear hx
   have hx:=hx_;clear hx_
   rw[bytes_step oM] at hq_
   have hib3:Lib.IsBuilder 185 5 w4.heap.size w4.heap.size _ _:=.inr hq_
   refine lN (CG.listed (lIn 41 ((m:Nat)+1) (m+1) ?_))
   refine lL hs [.m 32 41] (lD ?_)
   intro a_ ka
   have q29:(m+1)≤8:=by omega
   have q30:Ext w4 w27:=hx
   have q31:Lib.IsBuilder 185 5 w4.heap.size w4.heap.size (Lib.byteCells (((l.drop 1).take k).flatMap b8++(b8 ((l.drop 1).getD k 0)).take (m+1))) w27:=hib3
   refine ⟨_,_,?_,⟨m+1,h28,rfl,rfl,hs.to _ _,q29,q30,q31⟩,ka.to [(0,.slice A (tl l l.length) c),(2,.pointer (some ⟨b1,0,none⟩)),(3,.pointer (some ⟨w4.heap.size,0,none⟩)),(26,.slice (if c=1 then A else A.map (·.add (1*1))) ((tl l l.length)-1) (c-1)),(27,.int .i64 ((tl l l.length)-1:Nat)),(28,.int .i64 (k:Nat)),(5,.int .u64 ((l.drop 1).getD k 0:Nat)),(32,.int .i64 ((m+1):Nat))] kR⟩
   omega
  have phb7:=eq_of_beq hb7
  refine lB 15 hb7 ?_
  refine lL hs [.m 14 15] (lN (cIT (cSL (lL hs [.m 16 0] (lX 17 A (tl l l.length) c 1 0 0 ((hs.f.1).ok oM) ?_)))))
  refine lH 18 (.int .u64 (l.getD 0 0:Nat)) hs ((hs.f.1).el 0 oM) ?_
  refine lL hs [.v 19 (.agg #[.int .u64 (l.getD 0 0:Nat),.string ⟨#[]⟩])] (lP 0 0 ([.int .u64 (l.getD 0 0:Nat),.string ⟨#[]⟩]) hs (fun w32 hs=>?_))
  exact lN (CG.ret (hs.ret [(0,0,2)] (.agg #[.int .u64 (l.getD 0 0:Nat),.string ⟨#[]⟩]) (nv_one hd oM)))
 have phb6:=eq_of_beq hb6
 refine lB 12 hb6 ?_
 refine lL hs [.m 11 12] (lN (cIT (cSL (lL hs [.v 13 (.agg #[.int .u64 0,.string ⟨#[]⟩])] (lP 0 0 ([.int .u64 0,.string ⟨#[]⟩]) hs (fun w33 hs=>?_))))))
 exact lN (CG.ret (hs.ret [(0,0,2)] (.agg #[.int .u64 0,.string ⟨#[]⟩]) (nv_zero oM)))
theorem nOf (n:Nat)(hn:n<18446744073709551616)(w:World)(h:Hp)(g:G w h) :
    Calls Tryz.prog 105 #[.int .u64 (n:Nat)] w (Ret w h fun v _=>v=nv n):=by
 have hs:=SS.start g
 refine go Tryz.func105 [(0,.int .u64 (n:Nat))] rfl ?_
 refine cSL (lA 2 52 ([.int .u64 0,.string ⟨#[]⟩]) hs (fun b1 w2 h3 hs=>?_))
 refine lNS (lL hs [.m 3 0,.v 4 (.agg #[.int .u64 (n:Nat),.string ⟨#[]⟩])] (lP 0 0 ([.int .u64 (n:Nat),.string ⟨#[]⟩]) hs (fun w4 hs=>?_)))
 exact lN (CG.ret (hs.ret [(0,0,2)] (.agg #[.int .u64 (n:Nat),.string ⟨#[]⟩]) (nv_lit hn)))
theorem nSmallS (n:Nat)(hn:n<18446744073709551616)(w:World)(h:Hp)(g:G w h) :
    Calls Tryz.prog 104 #[nv n] w (Ret w h fun v _=>v=.tuple #[.int .u64 (n:Nat),.bool true]):=by
 have hs:=SS.start g
 refine go Tryz.func104 [(0,nv n)] rfl ?_
 refine cSL (lA 1 52 (nc n) hs (fun b1 w2 h3 hs=>?_))
 refine lL hs [.v 2 (.int .u64 0),.v 3 (.bool false)] (lN (CG.seq (cSL (lL hs [.v 4 (.pointer (some ⟨b1,1,none⟩)),.o 5 (.string (hi n)) 0 1 1] (lV 6 (.bool false) ?_ (hr:=rb kR (strE2 (hi_nil hn))))))))
 exact lN (cIF (CG.skipN (cSL (lL hs [.v 7 (.pointer (some ⟨b1,0,none⟩)),.o 8 (.int .u64 (n%18446744073709551616:Nat)) 0 0 1,.m 2 8,.v 3 (.bool true)] (lN (CG.ret (hs.ret [] (.tuple #[.int .u64 (n%18446744073709551616:Nat),.bool true]) (by rw[Nat.mod_eq_of_lt hn]))))))))
theorem nSmallB (n:Nat)(hn:18446744073709551616≤n)(w:World)(h:Hp)(g:G w h) :
    Calls Tryz.prog 104 #[nv n] w (Ret w h fun v _=>v=.tuple #[.int .u64 0,.bool false]):=by
 have hs:=SS.start g
 refine go Tryz.func104 [(0,nv n)] rfl ?_
 refine cSL (lA 1 52 (nc n) hs (fun b1 w2 h3 hs=>?_))
 refine lL hs [.v 2 (.int .u64 0),.v 3 (.bool false)] (lN (CG.seq (cSL (lL hs [.v 4 (.pointer (some ⟨b1,1,none⟩)),.o 5 (.string (hi n)) 0 1 1] (lV 6 (.bool true) ?_ (hr:=rb kR (strN2 (hi_ne hn))))))))
 exact lN (cIT (cSL (lL hs [.v 2 (.int .u64 0),.v 3 (.bool false)] (lN (CG.ret (hs.ret [] (.tuple #[.int .u64 0,.bool false]) rfl))))))
theorem nCmpW (a b:Nat)(w:World)(h:Hp)(g:G w h) :
    Calls Tryz.prog 128 #[.int .u64 (a:Nat),.int .u64 (b:Nat)] w (Ret w h fun v _=>v=.int .i64 (cmpN a b)):=by
 have hs:=SS.start g
 refine go Tryz.func128 [(0,.int .u64 (a:Nat)),(1,.int .u64 (b:Nat))] rfl ?_
 refine cSL (lL hs [.v 4 (.int .i64 0)] (lN (CG.seq (CG.block (cSL (lL hs [.m 6 0,.m 7 1] ?_))))))
 cases hb1:(decide (((a:Nat):Int)<((b:Nat):Int)))
 ·
  have phb1:=oF hb1
  refine lB 8 hb1 ?_
  refine lL hs [.m 5 8] (lN (cIF (cSL (lL hs [.m 10 0,.m 11 1] ?_))))
  cases hb2:(decide (((b:Nat):Int)<((a:Nat):Int)))
  ·
   have phb2:=oF hb2
   refine lB 12 hb2 ?_
   exact lL hs [.m 9 12] (lN (cIF (CG.skipN (cSL (lL hs [.v 4 (.int .i64 0)] (lN (CG.ret (hs.ret [] (.int .i64 0) (by rw[cmpN_eq oM])))))))))
  have phb2:=oT hb2
  refine lB 12 hb2 ?_
  exact lL hs [.m 9 12] (lN (cIT (cSL (lL hs [.v 4 (.int .i64 1)] (lN (CG.ret (hs.ret [] (.int .i64 1) (by rw[cmpN_gt oM]))))))))
 have phb1:=oT hb1
 refine lB 8 hb1 ?_
 exact lL hs [.m 5 8] (lN (cIT (cSL (lL hs [.v 4 (.int .i64 (-1))] (lN (CG.ret (hs.ret [] (.int .i64 (-1)) (by rw[cmpN_lt oM]))))))))
theorem nBitsS (n:Nat)(hn:n<18446744073709551616)(w:World)(h:Hp)(g:G w h) :
    Calls Tryz.prog 99 #[nv n] w (Ret w h fun v _=>v=.int .i64 (nb n:Nat)):=by
 have hs:=SS.start g
 refine go Tryz.func99 [(0,nv n)] rfl ?_
 refine cSL (lA 1 52 (nc n) hs (fun b1 w2 h3 hs=>?_))
 refine lL hs [.v 2 (.int .i64 0)] (lN (CG.seq (cSL (lL hs [.v 3 (.pointer (some ⟨b1,1,none⟩)),.o 4 (.string (hi n)) 0 1 1] (lV 5 (.bool true) ?_ (hr:=rb kR (strE (hi_nil hn))))))))
 refine lN (cIT (cSL (lL hs [.v 6 (.pointer (some ⟨b1,0,none⟩)),.o 7 (.int .u64 (n%18446744073709551616:Nat)) 0 0 1] (lC 8 hs (bLen64 (n%18446744073709551616) wM _ _ hs.g) ?_))))
 rintro _ w4 h5 hs rfl
 exact lL hs [.m 2 8] (lN (CG.ret (hs.ret [] (.int .i64 (nb (n%18446744073709551616):Nat)) (by rw[Nat.mod_eq_of_lt hn]))))
theorem nBitsB (n:Nat)(hn:18446744073709551616≤n)(hl:(wds n).length≤1000000000)(w:World)(h:Hp)(g:G w h) :
    Calls Tryz.prog 99 #[nv n] w (Ret w h fun v _=>v=.int .i64 (nb n:Nat)):=by
 have hs:=SS.start g
 have hz:=hi_size n
 have h2:=wds_len_big hn
 refine go Tryz.func99 [(0,nv n)] rfl ?_
 refine cSL (lA 1 52 (nc n) hs (fun b1 w2 h3 hs=>?_))
 refine lL hs [.v 2 (.int .i64 0)] (lN (CG.seq (cSL (lL hs [.v 3 (.pointer (some ⟨b1,1,none⟩)),.o 4 (.string (hi n)) 0 1 1] (lV 5 (.bool false) ?_ (hr:=rb kR (strN (hi_ne hn))))))))
 refine lN (cIF (CG.skipN (CG.seq (cR 14 [] mixed hs al_nil ?_))))
 refine eV 0 9 (.pointer (some ⟨b1,1,none⟩)) ?_
 refine eO 1 10 [(0,1,1)] (.string (hi n)) hs ?_
 refine eV 2 11 (.int .i64 ((hi n).size:Nat)) ?_
 refine eIn 3 12 (8*((hi n).size:Nat)) (8*(hi n).size) ?_
 refine eV 4 13 (.pointer (some ⟨b1,1,none⟩)) ?_
 refine eO 5 14 [(0,1,1)] (.string (hi n)) hs ?_
 refine eV 6 15 (.pointer (some ⟨b1,1,none⟩)) ?_
 refine eO 7 16 [(0,1,1)] (.string (hi n)) hs ?_
 refine eV 8 17 (.int .i64 ((hi n).size:Nat)) ?_
 refine eIn 9 18 (((hi n).size:Nat)-8) (8*((wds n).length-2)) ?_
 refine eV 10 19 (.string ((hi n).extract (8*((wds n).length-2):Nat) (hi n).size)) ?_ (hv:=fun _=>opSlS (tx:=9) (x:=.tmp 14) (i:=.tmp 18) (k:=.i64) (s:=hi n) (n:=(8*((wds n).length-2):Nat)) (j:=((8*((wds n).length-2):Nat):Int)) kR kR kR kR oM oM _)
 refine eC 11 20 hs (fun _ _ hs=>nWord ((hi n).extract (8*((wds n).length-2):Nat) (hi n).size) (by rw[size_ext];omega) _ _ hs.g) ?_
 rintro _ _ _ w4 h5 hs rfl
 refine eC 12 21 hs (fun _ _ hs=>bLen64 (wv ((hi n).extract (8*((wds n).length-2):Nat) (hi n).size):Nat) wM _ _ hs.g) ?_
 rintro _ _ _ w6 h7 hs rfl
 have hw:=wv_ext n ((wds n).length-2) oM
 rw[show (wds n).length-2+1=(wds n).length-1 by omega] at hw
 have hbn:=nb_wds (n:=n) oM
 have hnb:nb (wv ((hi n).extract (8*((wds n).length-2)) (hi n).size))≤64:=nb_le (k:=64) (wv_lt _)
 rw[←hw] at hbn
 refine eIn 13 22 ((8*(hi n).size:Nat)+(nb (wv ((hi n).extract (8*((wds n).length-2):Nat) (hi n).size):Nat):Nat)) (nb n) ?_
 refine eD0 hs (fun w8 h9 hs=>?_)
 refine tV 14 2 (.int .i64 (nb n:Nat)) ?_
 exact tN (CG.ret (hs.ret [] (.int .i64 (nb n:Nat)) rfl))
theorem nBits (n:Nat)(hl:(wds n).length≤1000000000)(w:World)(h:Hp)(g:G w h):Calls Tryz.prog 99 #[nv n] w (Ret w h fun v _=>v=.int .i64 (nb n:Nat)):=by
  rcases Nat.lt_or_ge n 18446744073709551616 with hs|hs
  · exact nBitsS n hs w h g
  · exact nBitsB n hs hl w h g
theorem nCmp (a b:Nat)(hla:(wds a).length≤1000000000)(hlb:(wds b).length≤1000000000)(w:World)(h:Hp)(g:G w h) :
    Calls Tryz.prog 102 #[nv a,nv b] w (Ret w h fun v _=>v=.int .i64 (cmpN a b)):=by
 have hs:=SS.start g
 have hza:=hi_size a
 have hzb:=hi_size b
 refine go Tryz.func102 [(0,nv a),(1,nv b)] rfl ?_
 refine cSL (lA 2 52 (nc a) hs (fun b1 w2 h3 hs=>?_))
 refine lA 3 52 (nc b) hs (fun b4 w5 h6 hs=>?_)
 refine lL hs [.v 4 (.int .i64 0)] (lN (CG.seq (cSL (lL hs [.v 8 (.pointer (some ⟨b1,1,none⟩)),.o 9 (.string (hi a)) 1 1 1,.v 10 (.int .i64 ((hi a).size:Nat)),.v 11 (.pointer (some ⟨b4,1,none⟩)),.o 12 (.string (hi b)) 0 1 1,.v 13 (.int .i64 ((hi b).size:Nat))] ?_))))
 cases hb7:((((hi a).size:Nat):Int) != (((hi b).size:Nat):Int))
 ·
  have phb7:=eqOfBne hb7
  refine lB 14 hb7 ?_
  refine lN (cIF (CG.skipN (CG.seq (cSL (lL hs [.v 22 (.pointer (some ⟨b1,1,none⟩)),.o 23 (.string (hi a)) 1 1 1,.v 24 (.int .i64 ((hi a).size:Nat))] (lV 25 (.int .i64 (8*(((wds a).length-1:Nat):Int)-8)) ?_ (hr:=rint (n:=IntKind.wrap .i64 (((hi a).size:Nat)-8)) kR ((wr64 oM oM).trans oM))))))))
  refine lL hs [.m 5 25] (lN (CG.block (cTo [(2,.pointer (some ⟨b1,0,none⟩)),(3,.pointer (some ⟨b4,0,none⟩)),(5,.int .i64 (8*(((wds a).length-1:Nat):Int)-8))] ?_)))
  refine CG.loop (fun μ_ Γ w_=>∃ (m:Nat) (h_:Hp),μ_=m∧Γ=[(2,.pointer (some ⟨b1,0,none⟩)),(3,.pointer (some ⟨b4,0,none⟩)),(5,.int .i64 (8*((m:Nat):Int)-8))]∧SS w h w_ h_ [⟨b4,52,nc b⟩,⟨b1,52,nc a⟩] [] []∧(m≤(wds a).length-1)∧((wds a).length-1=(wds b).length-1)∧((wds a).drop (m+1)=(wds b).drop (m+1))) _ ⟨(wds a).length-1,h6,rfl,rfl,hs.to _ _,Nat.le_refl _,oM,(by rw[List.drop_eq_nil_of_le oM,List.drop_eq_nil_of_le oM])⟩ ?_
  rintro _ _ w8 ⟨m,h9,hm10,rfl,hs,hm,hlen,hdr⟩
  refine CG.seq (cSL (lL hs [.m 26 5] ?_))
  cases hb11:(decide ((0:Int)≤(8*((m:Nat):Int)-8:Int)))
  ·
   have phb11:=oF hb11
   refine lB 27 hb11 ?_
   refine lN (cIF (CG.exit ?_))
   show CG _ _ _ _ _ _ _ _
   refine cSL (lL hs [.v 46 (.pointer (some ⟨b1,0,none⟩)),.o 47 (.int .u64 (a%18446744073709551616:Nat)) 1 0 1,.v 48 (.pointer (some ⟨b4,0,none⟩)),.o 49 (.int .u64 (b%18446744073709551616:Nat)) 0 0 1] (lC 50 hs (nCmpW (a%18446744073709551616) (b%18446744073709551616) _ _ hs.g) ?_))
   rintro _ w12 h13 hs rfl
   exact lL hs [.m 4 50] (lN (CG.ret (hs.ret [] (.int .i64 (cmpN (a%18446744073709551616) (b%18446744073709551616))) (by rw[wds_cmp_low (a:=a) (b:=b) oM (by have hm0:m=0:=oM;rw[hm0] at hdr;exact hdr)]))))
  have phb11:=oT hb11
  refine lB 27 hb11 ?_
  refine lN (cIT (CG.skipN (CG.seq (CG.block (CG.seq ?_)))))
  have hsr:=hs
  refine cRz 10 [] [] mixed hs al_nil ?_
  refine eV 0 30 (.pointer (some ⟨b1,1,none⟩)) ?_
  refine eO 1 31 [(1,1,1)] (.string (hi a)) hs ?_
  refine eV 2 32 (.int .i64 (8*((m:Nat):Int)-8)) ?_
  refine eV 3 33 (.string ((hi a).extract (8*(m-1)) (hi a).size)) ?_ (hv:=fun _=>opSlS (tx:=9) (x:=.tmp 31) (i:=.tmp 32) (k:=.i64) (s:=hi a) (n:=8*(m-1)) (j:=(8*((m:Nat):Int)-8:Int)) kR kR kR kR oM oM _)
  refine eV 5 35 (.pointer (some ⟨b4,1,none⟩)) ?_
  refine eOz 6 36 [(0,1,1)] (.string (hi b)) hsr hs ?_
  refine eV 7 37 (.int .i64 (8*((m:Nat):Int)-8)) ?_
  refine eV 8 38 (.string ((hi b).extract (8*(m-1)) (hi b).size)) ?_ (hv:=fun _=>opSlS (tx:=9) (x:=.tmp 36) (i:=.tmp 37) (k:=.i64) (s:=hi b) (n:=8*(m-1)) (j:=(8*((m:Nat):Int)-8:Int)) kR kR kR kR oM oM _)
  refine eC 4 34 hs (fun _ _ hs=>nWord ((hi a).extract (8*(m-1)) (hi a).size) (by rw[size_ext];omega) _ _ hs.g) ?_
  rintro _ _ _ w14 h15 hs rfl
  refine eC 9 39 hs (fun _ _ hs=>nWord ((hi b).extract (8*(m-1)) (hi b).size) (by rw[size_ext];omega) _ _ hs.g) ?_
  rintro _ _ _ w16 h17 hs rfl
  refine eD0 hs (fun w18 h19 hs=>?_)
  refine tV 10 6 (.int .u64 (wv ((hi a).extract (8*(m-1)) (hi a).size):Nat)) ?_
  refine tV 11 7 (.int .u64 (wv ((hi b).extract (8*(m-1)) (hi b).size):Nat)) ?_
  refine tNS ?_
  have hwa:=wv_ext a (m-1) oM
  have hwb:=wv_ext b (m-1) oM
  rw[show m-1+1=m by omega] at hwa hwb
  refine lL hs [.m 40 6,.m 41 7] ?_
  cases hb20:(((wv ((hi a).extract (8*(m-1)) (hi a).size):Nat):Int) != ((wv ((hi b).extract (8*(m-1)) (hi b).size):Nat):Int))
  ·
   have phb20:=eqOfBne hb20
   refine lB 42 hb20 ?_
   refine lN (cIF (CG.skipN (CG.listed (lL hs [.m 28 5] (lV 29 (.int .i64 (8*((m-1:Nat):Int)-8)) ?_ (hr:=rint (n:=IntKind.wrap .i64 ((8*((m:Nat):Int)-8)-8)) kR ((wr64 oM oM).trans oM)))))))
   refine lL hs [.m 5 29] (lD ?_)
   intro a_ ka
   have q21:(m-1)≤(wds a).length-1:=by omega
   have q22:(wds a).length-1=(wds b).length-1:=hlen
   have q23:(wds a).drop ((m-1)+1)=(wds b).drop ((m-1)+1):=(by rw[show m-1+1=m by omega];exact drop_eq_step oM oM hdr oM)
   refine ⟨_,_,?_,⟨m-1,h19,rfl,rfl,hs.to _ _,q21,q22,q23⟩,ka.to [(2,.pointer (some ⟨b1,0,none⟩)),(3,.pointer (some ⟨b4,0,none⟩)),(5,.int .i64 (8*(((m-1):Nat):Int)-8))] kR⟩
   omega
  have phb20:=neOfBne hb20
  refine lB 42 hb20 ?_
  refine lN (cIT (cSL (lL hs [.m 43 6,.m 44 7] (lC 45 hs (nCmpW (wv ((hi a).extract (8*(m-1)) (hi a).size):Nat) (wv ((hi b).extract (8*(m-1)) (hi b).size):Nat) _ _ hs.g) ?_))))
  rintro _ w24 h25 hs rfl
  exact lL hs [.m 4 45] (lN (CG.ret (hs.ret [] (.int .i64 (cmpN (wv ((hi a).extract (8*(m-1)) (hi a).size):Nat) (wv ((hi b).extract (8*(m-1)) (hi b).size):Nat))) (by rw[wv_ext a (m-1) oM,wv_ext b (m-1) oM,show m-1+1=m by omega];exact congrArg (Value.int .i64) (wds_cmp oM oM hdr oM)))))
 have phb7:=neOfBne hb7
 refine lB 14 hb7 ?_
 refine lN (cIT (CG.seq (cSL (lL hs [.v 15 (.pointer (some ⟨b1,1,none⟩)),.o 16 (.string (hi a)) 1 1 1,.v 17 (.int .i64 ((hi a).size:Nat)),.v 18 (.pointer (some ⟨b4,1,none⟩)),.o 19 (.string (hi b)) 0 1 1,.v 20 (.int .i64 ((hi b).size:Nat))] ?_))))
 cases hb26:(decide ((((hi a).size:Nat):Int)<(((hi b).size:Nat):Int)))
 ·
  have phb26:=oF hb26
  refine lB 21 hb26 ?_
  exact lN (cIF (CG.skipN (cSL (lL hs [.v 4 (.int .i64 1)] (lN (CG.ret (hs.ret [] (.int .i64 1) (by rw[cmpN_gt (wds_cmp_len oM)]))))))))
 have phb26:=oT hb26
 refine lB 21 hb26 ?_
 exact lN (cIT (cSL (lL hs [.v 4 (.int .i64 (-1))] (lN (CG.ret (hs.ret [] (.int .i64 (-1)) (by rw[cmpN_lt (wds_cmp_len oM)])))))))
theorem bDiv64 (hi lo y:Nat)(hlt:hi<y)(hy:y<18446744073709551616)(hlo:lo<18446744073709551616)(w:World)(h:Hp)(g:G w h) :
    Calls Tryz.prog 150 #[.int .u64 (hi:Nat),.int .u64 (lo:Nat),.int .u64 (y:Nat)] w (Ret w h fun v _=>∃ q r:Nat,v=.tuple #[.int .u64 q,.int .u64 r]∧hi*18446744073709551616+lo=y*q+r∧r<y∧q<18446744073709551616):=by
 have hs:=SS.start g
 refine go Tryz.func150 [(0,.int .u64 (hi:Nat)),(1,.int .u64 (lo:Nat)),(2,.int .u64 (y:Nat))] rfl ?_
 refine cSL (lL hs [.v 6 (.int .u64 0),.v 7 (.int .u64 0)] (lN (CG.seq (cSL (lL hs [.m 19 2] ?_)))))
 have hb1:(((y:Nat):Int) == (0:Int))=false:=beqF oM
 have phb1:=neOfBeq hb1
 refine lB 20 hb1 ?_
 refine lN (cIF (CG.skipN (CG.seq (cSL (lL hs [.m 22 2,.m 23 0] ?_)))))
 have ⟨hb2,phb2⟩:=dF (p:=((y:Nat):Int)≤((hi:Nat):Int)) oM
 refine lB 24 hb2 ?_
 refine lN (cIF (CG.skipN (CG.seq (cSL (lL hs [.m 26 0] ?_)))))
 cases hb3:(((hi:Nat):Int) == (0:Int))
 ·
  have phb3:=neOfBeq hb3
  refine lB 27 hb3 ?_
  refine lN (cIF (CG.skipN (cSL (lL hs [.m 34 2] (lC 35 hs (bLz64 y wM _ _ hs.g) ?_)))))
  rintro _ w4 h5 hs rfl
  obtain ⟨s,hsd⟩:∃ x_,x_=64-nb y:=⟨_,rfl⟩
  refine lV 36 (.int .u64 (s:Nat)) ?_ (hr:=rint (rint (n:=IntKind.wrap .u64 ((64-nb y:Nat):Int)) kR (fitU64 oM oM)) (by rw[hsd]))
  refine lL hs [.m 8 36] (lNS (lL hs [.m 37 2,.m 38 8] ?_))
  obtain ⟨Y,hY⟩:∃ x_,x_=y*2^s:=⟨_,rfl⟩
  have hn:=lz_norm (y:=y) oM oM
  rw[←hsd,←hY] at hn
  refine lV 39 (.int .u64 (Y:Nat)) ?_ (hr:=rint (opShlN (t:=50) (u:=160) (x:=.tmp 37) (y:=.tmp 38) (ky:=.u64) (a:=y) (n:=s) kR kR kR _) (by rw[←hY,Nat.mod_eq_of_lt hn.2]))
  refine lL hs [.m 2 39] (lNS (lL hs [.m 40 2] ?_))
  obtain ⟨y1,hy1⟩:∃ x_,x_=Y/4294967296:=⟨_,rfl⟩
  refine lV 41 (.int .u64 (y1:Nat)) ?_ (hr:=rint (rint (n:=Int.fdiv ((Y:Nat):Int) 4294967296) kR (fdivNat _ 4294967296)) (by rw[hy1]))
  refine lL hs [.m 9 41] (lNS (lL hs [.m 42 2] ?_))
  obtain ⟨y0,hy0⟩:∃ x_,x_=Y%4294967296:=⟨_,rfl⟩
  refine lV 43 (.int .u64 (y0:Nat)) ?_ (hr:=rint (opAndM (t:=50) (u:=50) (x:=.tmp 42) (y:=.const (.int .u64 4294967295)) (a:=Y) (m:=4294967295) 32 kR kR kR oM kD _) (by rw[hy0]))
  refine lL hs [.m 10 43] (lNS (lL hs [.m 44 0,.m 45 8] ?_))
  have hhi:hi*2^s<Y:=by rw[hY];exact Nat.mul_lt_mul_of_pos_right hlt (Nat.two_pow_pos s)
  obtain ⟨hsh,hsl⟩:=shl_two (hi:=hi) (lo:=lo) (s:=s) oM hlo
  have hdl:=Nat.div_le_self lo (2^(64-s))
  have hYY:Y=y1*4294967296+y0:=by omega
  refine lV 46 (.int .u64 (hi*2^s:Nat)) ?_ (hr:=rint (opShlN (t:=50) (u:=160) (x:=.tmp 44) (y:=.tmp 45) (ky:=.u64) (a:=hi) (n:=s) kR kR kR _) (by rw[Nat.mod_eq_of_lt oM]))
  refine lL hs [.m 47 1,.m 48 8] (lV 49 (.int .u64 (64-s:Nat)) ?_ (hr:=rint (n:=IntKind.wrap .u64 ((64:Int)-((s:Nat):Int))) kR (fSU64 64 s oM oM)))
  refine lV 50 (.int .u64 (lo/2^(64-s):Nat)) ?_ (hr:=opShrN (t:=50) (u:=160) (x:=.tmp 47) (y:=.tmp 49) (ky:=.u64) (a:=lo) (n:=(64-s)) kR kR kR oM _)
  obtain ⟨u32,hu32⟩:∃ x_,x_=hi*2^s+lo/2^(64-s):=⟨_,rfl⟩
  rw[←hu32] at hsh
  have huY:u32<Y:=by
    have e2:(hi+1)*2^s≤y*2^s:=Nat.mul_le_mul_right _ hlt
    rw[Nat.add_mul,Nat.one_mul,←hY] at e2
    omega
  refine lV 51 (.int .u64 (u32:Nat)) ?_ (hr:=rint (opOr (t:=50) (u:=50) (x:=.tmp 46) (y:=.tmp 50) (a:=(hi*2^s)) (b:=(lo/2^(64-s))) kR kR kR oM oM _) (by rw[hu32,Nat.or_comm,or_lo s hsl,Nat.add_comm]))
  refine lL hs [.m 11 51] (lNS (lL hs [.m 52 1,.m 53 8] ?_))
  obtain ⟨u10,hu10⟩:∃ x_,x_=lo*2^s%18446744073709551616:=⟨_,rfl⟩
  rw[←hu10] at hsh
  have hu10b:u10<18446744073709551616:=by omega
  refine lV 54 (.int .u64 (u10:Nat)) ?_ (hr:=rint (opShlN (t:=50) (u:=160) (x:=.tmp 52) (y:=.tmp 53) (ky:=.u64) (a:=lo) (n:=s) kR kR kR _) (by rw[hu10]))
  refine lL hs [.m 12 54] (lNS (lL hs [.m 55 12] ?_))
  obtain ⟨u1,hu1⟩:∃ x_,x_=u10/4294967296:=⟨_,rfl⟩
  refine lV 56 (.int .u64 (u1:Nat)) ?_ (hr:=rint (rint (n:=Int.fdiv ((u10:Nat):Int) 4294967296) kR (fdivNat _ 4294967296)) (by rw[hu1]))
  refine lL hs [.m 13 56] (lN (cTo [(2,.int .u64 (Y:Nat)),(6,.int .u64 0),(7,.int .u64 0),(8,.int .u64 (s:Nat)),(9,.int .u64 (y1:Nat)),(10,.int .u64 (y0:Nat)),(11,.int .u64 (u32:Nat)),(12,.int .u64 (u10:Nat)),(13,.int .u64 (u1:Nat))] ?_))
  refine cSL (lL hs [.m 57 12] ?_)
  obtain ⟨u0,hu0⟩:∃ x_,x_=u10%4294967296:=⟨_,rfl⟩
  refine lV 58 (.int .u64 (u0:Nat)) ?_ (hr:=rint (opAndM (t:=50) (u:=50) (x:=.tmp 57) (y:=.const (.int .u64 4294967295)) (a:=u10) (m:=4294967295) 32 kR kR kR oM kD _) (by rw[hu0]))
  refine lL hs [.m 14 58] (lNS (lL hs [.m 59 11,.m 60 9] ?_))
  have hH0:=half_start (Y:=Y) (y1:=y1) (y0:=y0) (u:=u32) (u1:=u1) hYY oM oM oM huY
  have hR0:=half_rest (u:=u32) (y1:=y1) oM
  have hM0:=Nat.div_mul_le_self u32 y1
  obtain ⟨qa,hqa⟩:∃ x_,x_=u32/y1:=⟨_,rfl⟩
  rw[←hqa] at hH0 hR0 hM0
  refine lV 61 (.int .u64 (qa:Nat)) ?_ (hr:=rint (rint (opQuo (t:=50) (u:=50) (x:=.tmp 59) (y:=.tmp 60) (k:=.u64) (a:=((u32:Nat):Int)) (b:=((y1:Nat):Int)) kR kR kR oM _) (quoU64 u32 y1 oM)) (by rw[hqa]))
  refine lL hs [.m 15 61] (lNS (lL hs [.m 62 11,.m 63 15,.m 64 9] (lV 65 (.int .u64 (qa*y1:Nat)) ?_ (hr:=rint (n:=IntKind.wrap .u64 (((qa:Nat):Int)*((y1:Nat):Int))) kR (fMU64 qa y1 oM)))))
  obtain ⟨ra,hra⟩:∃ x_,x_=u32-qa*y1:=⟨_,rfl⟩
  rw[←hra] at hH0 hR0
  refine lV 66 (.int .u64 (ra:Nat)) ?_ (hr:=rint (rint (n:=IntKind.wrap .u64 (((u32:Nat):Int)-((qa*y1:Nat):Int))) kR (fSU64 u32 (qa*y1) oM oM)) (by rw[hra]))
  refine lL hs [.m 16 66] (lN (CG.join (fun Γ w_=>∃ (q1:Nat) (h_:Hp),Γ=[(2,.int .u64 (Y:Nat)),(6,.int .u64 0),(7,.int .u64 0),(8,.int .u64 (s:Nat)),(9,.int .u64 (y1:Nat)),(10,.int .u64 (y0:Nat)),(11,.int .u64 (u32:Nat)),(13,.int .u64 (u1:Nat)),(14,.int .u64 (u0:Nat)),(15,.int .u64 (q1:Nat))]∧SS w h w_ h_ [] [] []∧(q1=(u32*4294967296+u1)/Y∧(u32*4294967296+u1)-q1*Y=(u32*4294967296+u1)%Y∧q1*Y≤u32*4294967296+u1)) ?_ ?_))
  ·
   refine CG.block (cTo [(2,.int .u64 (Y:Nat)),(6,.int .u64 0),(7,.int .u64 0),(8,.int .u64 (s:Nat)),(9,.int .u64 (y1:Nat)),(10,.int .u64 (y0:Nat)),(11,.int .u64 (u32:Nat)),(13,.int .u64 (u1:Nat)),(14,.int .u64 (u0:Nat)),(15,.int .u64 (qa:Nat)),(16,.int .u64 (ra:Nat))] ?_)
   refine CG.loop (fun μ_ Γ w_=>∃ (q:Nat) (r:Nat) (h_:Hp),μ_=q∧Γ=[(2,.int .u64 (Y:Nat)),(6,.int .u64 0),(7,.int .u64 0),(8,.int .u64 (s:Nat)),(9,.int .u64 (y1:Nat)),(10,.int .u64 (y0:Nat)),(11,.int .u64 (u32:Nat)),(13,.int .u64 (u1:Nat)),(14,.int .u64 (u0:Nat)),(15,.int .u64 (q:Nat)),(16,.int .u64 (r:Nat))]∧SS w h w_ h_ [] [] []∧(HalfQ Y y1 y0 u32 u1 q r)∧(r<4294967296)) _ ⟨qa,ra,h5,rfl,rfl,hs.to _ _,hH0,oM⟩ ?_
   rintro _ _ w6 ⟨q,r,h7,hm8,rfl,hs,hH,hr⟩
   have hqb_:=hH.qb
   refine CG.seq (cSL (lL hs [.m 67 15] ?_))
   cases hb9:(decide ((4294967296:Int)≤((q:Nat):Int)))
   ·
    have phb9:=oF hb9
    refine lB 68 hb9 ?_
    refine lL hs [.m 69 68,.m 70 15,.m 71 10] (lV 72 (.int .u64 (q*y0:Nat)) ?_ (hr:=rint (n:=IntKind.wrap .u64 (((q:Nat):Int)*((y0:Nat):Int))) kR (fMU64 q y0 (mul32 oM oM))))
    refine lL hs [.m 73 16] (lV 74 (.int .u64 (4294967296*r:Nat)) ?_ (hr:=rint (n:=IntKind.wrap .u64 ((4294967296:Int)*((r:Nat):Int))) kR (fMU64 4294967296 r oM)))
    refine lL hs [.m 75 13] (lV 76 (.int .u64 ((4294967296*r)+u1:Nat)) ?_ (hr:=rint (n:=IntKind.wrap .u64 (((4294967296*r:Nat):Int)+((u1:Nat):Int))) kR (fAU64 (4294967296*r) u1 oM)))
    cases hb10:(decide ((((4294967296*r)+u1:Nat):Int)<((q*y0:Nat):Int)))
    ·
     have phb10:=oF hb10
     refine lB 77 hb10 ?_
     refine lL hs [.v 78 (.bool false)] (lN (cIF (CG.exit ?_)))
     intro a_ ka
     have q11:q=(u32*4294967296+u1)/Y∧(u32*4294967296+u1)-q*Y=(u32*4294967296+u1)%Y∧q*Y≤u32*4294967296+u1:=(by first|exact hH.fin hYY oM|exact hH2.brk hYY oM oM (by have:=hH2.qb;omega))
     exact ⟨_,⟨q,h7,rfl,hs.to _ _,q11⟩,ka.to [(2,.int .u64 (Y:Nat)),(6,.int .u64 0),(7,.int .u64 0),(8,.int .u64 (s:Nat)),(9,.int .u64 (y1:Nat)),(10,.int .u64 (y0:Nat)),(11,.int .u64 (u32:Nat)),(13,.int .u64 (u1:Nat)),(14,.int .u64 (u0:Nat)),(15,.int .u64 (q:Nat))] kR⟩
    have phb10:=oT hb10
    refine lB 77 hb10 ?_
    refine lL hs [.v 78 (.bool true)] (lN (cIT (CG.skipN (CG.block (cSL (lL hs [.m 79 15] ?_))))))
    have hq1:0<q:=by first|omega|exact pos_of_mul (show 4294967296*r+u1<q*y0 by omega)
    have hH2:=hH.dec hYY oM huY (by first|exact .inl oM|exact .inr oM)
    refine lV 80 (.int .u64 (q-1:Nat)) ?_ (hr:=rint (n:=IntKind.wrap .u64 (((q:Nat):Int)-(1:Int))) kR (fSU64 q 1 oM oM))
    refine lL hs [.m 15 80] (lNS (lL hs [.m 81 16,.m 82 9] (lV 83 (.int .u64 (r+y1:Nat)) ?_ (hr:=rint (n:=IntKind.wrap .u64 (((r:Nat):Int)+((y1:Nat):Int))) kR (fAU64 r y1 oM)))))
    refine lL hs [.m 16 83] (lNS (lL hs [.m 84 16] ?_))
    cases hb12:(decide ((4294967296:Int)≤((r+y1:Nat):Int)))
    ·
     have phb12:=oF hb12
     refine lB 85 hb12 ?_
     refine lN (cIF (CG.skip ?_))
     intro a_ ka
     have q13:HalfQ Y y1 y0 u32 u1 (q-1) (r+y1):=hH2
     have q14:(r+y1)<4294967296:=oM
     refine ⟨_,_,?_,⟨q-1,r+y1,h7,rfl,rfl,hs.to _ _,q13,q14⟩,ka.to [(2,.int .u64 (Y:Nat)),(6,.int .u64 0),(7,.int .u64 0),(8,.int .u64 (s:Nat)),(9,.int .u64 (y1:Nat)),(10,.int .u64 (y0:Nat)),(11,.int .u64 (u32:Nat)),(13,.int .u64 (u1:Nat)),(14,.int .u64 (u0:Nat)),(15,.int .u64 ((q-1):Nat)),(16,.int .u64 ((r+y1):Nat))] kR⟩
     omega
    have phb12:=oT hb12
    refine lB 85 hb12 ?_
    refine lN (cIT (CG.exit ?_))
    intro a_ ka
    have q15:(q-1)=(u32*4294967296+u1)/Y∧(u32*4294967296+u1)-(q-1)*Y=(u32*4294967296+u1)%Y∧(q-1)*Y≤u32*4294967296+u1:=(by first|exact hH.fin hYY oM|exact hH2.brk hYY oM oM (by have:=hH2.qb;omega))
    exact ⟨_,⟨(q-1),h7,rfl,hs.to _ _,q15⟩,ka.to [(2,.int .u64 (Y:Nat)),(6,.int .u64 0),(7,.int .u64 0),(8,.int .u64 (s:Nat)),(9,.int .u64 (y1:Nat)),(10,.int .u64 (y0:Nat)),(11,.int .u64 (u32:Nat)),(13,.int .u64 (u1:Nat)),(14,.int .u64 (u0:Nat)),(15,.int .u64 ((q-1):Nat))] kR⟩
   have phb9:=oT hb9
   refine lB 68 hb9 ?_
   refine lL hs [.m 69 68] (lG 70 ?_)
   refine lG 71 ?_
   refine lG 72 ?_
   refine lG 73 ?_
   refine lG 74 ?_
   refine lG 75 ?_
   refine lG 76 ?_
   refine lG 77 ?_
   refine lL hs [.v 78 (.bool true)] (lN (cIT (CG.skipN (CG.block (cSL (lL hs [.m 79 15] ?_))))))
   have hq1:0<q:=by first|omega|exact pos_of_mul (show 4294967296*r+u1<q*y0 by omega)
   have hH2:=hH.dec hYY oM huY (by first|exact .inl oM|exact .inr oM)
   refine lV 80 (.int .u64 (q-1:Nat)) ?_ (hr:=rint (n:=IntKind.wrap .u64 (((q:Nat):Int)-(1:Int))) kR (fSU64 q 1 oM oM))
   refine lL hs [.m 15 80] (lNS (lL hs [.m 81 16,.m 82 9] (lV 83 (.int .u64 (r+y1:Nat)) ?_ (hr:=rint (n:=IntKind.wrap .u64 (((r:Nat):Int)+((y1:Nat):Int))) kR (fAU64 r y1 oM)))))
   refine lL hs [.m 16 83] (lNS (lL hs [.m 84 16] ?_))
   cases hb16:(decide ((4294967296:Int)≤((r+y1:Nat):Int)))
   ·
    have phb16:=oF hb16
    refine lB 85 hb16 ?_
    refine lN (cIF (CG.skip ?_))
    intro a_ ka
    have q17:HalfQ Y y1 y0 u32 u1 (q-1) (r+y1):=hH2
    have q18:(r+y1)<4294967296:=oM
    refine ⟨_,_,?_,⟨q-1,r+y1,h7,rfl,rfl,hs.to _ _,q17,q18⟩,ka.to [(2,.int .u64 (Y:Nat)),(6,.int .u64 0),(7,.int .u64 0),(8,.int .u64 (s:Nat)),(9,.int .u64 (y1:Nat)),(10,.int .u64 (y0:Nat)),(11,.int .u64 (u32:Nat)),(13,.int .u64 (u1:Nat)),(14,.int .u64 (u0:Nat)),(15,.int .u64 ((q-1):Nat)),(16,.int .u64 ((r+y1):Nat))] kR⟩
    omega
   have phb16:=oT hb16
   refine lB 85 hb16 ?_
   refine lN (cIT (CG.exit ?_))
   intro a_ ka
   have q19:(q-1)=(u32*4294967296+u1)/Y∧(u32*4294967296+u1)-(q-1)*Y=(u32*4294967296+u1)%Y∧(q-1)*Y≤u32*4294967296+u1:=(by first|exact hH.fin hYY oM|exact hH2.brk hYY oM oM (by have:=hH2.qb;omega))
   exact ⟨_,⟨(q-1),h7,rfl,hs.to _ _,q19⟩,ka.to [(2,.int .u64 (Y:Nat)),(6,.int .u64 0),(7,.int .u64 0),(8,.int .u64 (s:Nat)),(9,.int .u64 (y1:Nat)),(10,.int .u64 (y0:Nat)),(11,.int .u64 (u32:Nat)),(13,.int .u64 (u1:Nat)),(14,.int .u64 (u0:Nat)),(15,.int .u64 ((q-1):Nat))] kR⟩
  rintro _ w20 ⟨q1,h21,rfl,hs,hF⟩
  refine cSL ?_
  obtain ⟨hF1,hF2,hF3⟩:=hF
  have hF4:=quo_lt32 (u1:=u1) huY oM
  rw[←hF1] at hF4
  refine lL hs [.m 86 11] (lV 87 (.int .u64 ((u32*4294967296)%18446744073709551616:Nat)) ?_ (hr:=rint (n:=IntKind.wrap .u64 (((u32:Nat):Int)*(4294967296:Int))) kR (wMU64 u32 4294967296)))
  refine lL hs [.m 88 13] (lV 89 (.int .u64 ((((u32*4294967296)%18446744073709551616)+u1)%18446744073709551616:Nat)) ?_ (hr:=rint (n:=IntKind.wrap .u64 ((((u32*4294967296)%18446744073709551616:Nat):Int)+((u1:Nat):Int))) kR (wAU64 ((u32*4294967296)%18446744073709551616) u1)))
  refine lL hs [.m 90 15,.m 91 2] (lV 92 (.int .u64 ((q1*Y)%18446744073709551616:Nat)) ?_ (hr:=rint (n:=IntKind.wrap .u64 (((q1:Nat):Int)*((Y:Nat):Int))) kR (wMU64 q1 Y)))
  obtain ⟨r1,hr1⟩:∃ x_,x_=(u32*4294967296+u1)%Y:=⟨_,rfl⟩
  have hr1Y:r1<Y:=by rw[hr1];exact Nat.mod_lt _ oM
  refine lV 93 (.int .u64 (r1:Nat)) ?_ (hr:=rint (rint (n:=IntKind.wrap .u64 ((((((u32*4294967296)%18446744073709551616)+u1)%18446744073709551616:Nat):Int)-(((q1*Y)%18446744073709551616:Nat):Int))) kR (wSU64 ((((u32*4294967296)%18446744073709551616)+u1)%18446744073709551616:Nat) ((q1*Y)%18446744073709551616) oM)) (by rw[wrap_rest hF3 (hF2.trans hr1.symm) oM]))
  refine lL hs [.m 17 93] (lNS (lL hs [.m 94 17,.m 95 9] ?_))
  have hK0:=half_start (Y:=Y) (y1:=y1) (y0:=y0) (u:=r1) (u1:=u0) hYY oM oM oM hr1Y
  have hS0:=half_rest (u:=r1) (y1:=y1) oM
  have hL0:=Nat.div_mul_le_self r1 y1
  obtain ⟨qb,hqb⟩:∃ x_,x_=r1/y1:=⟨_,rfl⟩
  rw[←hqb] at hK0 hS0 hL0
  refine lV 96 (.int .u64 (qb:Nat)) ?_ (hr:=rint (rint (opQuo (t:=50) (u:=50) (x:=.tmp 94) (y:=.tmp 95) (k:=.u64) (a:=((r1:Nat):Int)) (b:=((y1:Nat):Int)) kR kR kR oM _) (quoU64 r1 y1 oM)) (by rw[hqb]))
  refine lL hs [.m 18 96] (lNS (lL hs [.m 97 17,.m 98 18,.m 99 9] (lV 100 (.int .u64 (qb*y1:Nat)) ?_ (hr:=rint (n:=IntKind.wrap .u64 (((qb:Nat):Int)*((y1:Nat):Int))) kR (fMU64 qb y1 oM)))))
  obtain ⟨rb,hrb⟩:∃ x_,x_=r1-qb*y1:=⟨_,rfl⟩
  rw[←hrb] at hK0 hS0
  refine lV 101 (.int .u64 (rb:Nat)) ?_ (hr:=rint (rint (n:=IntKind.wrap .u64 (((r1:Nat):Int)-((qb*y1:Nat):Int))) kR (fSU64 r1 (qb*y1) oM oM)) (by rw[hrb]))
  refine lL hs [.m 16 101] (lN (CG.join (fun Γ w_=>∃ (p1:Nat) (h_:Hp),Γ=[(2,.int .u64 (Y:Nat)),(6,.int .u64 0),(7,.int .u64 0),(8,.int .u64 (s:Nat)),(14,.int .u64 (u0:Nat)),(15,.int .u64 (q1:Nat)),(17,.int .u64 (r1:Nat)),(18,.int .u64 (p1:Nat))]∧SS w h w_ h_ [] [] []∧(p1=(r1*4294967296+u0)/Y∧(r1*4294967296+u0)-p1*Y=(r1*4294967296+u0)%Y∧p1*Y≤r1*4294967296+u0)) ?_ ?_))
  ·
   refine CG.block (cTo [(2,.int .u64 (Y:Nat)),(6,.int .u64 0),(7,.int .u64 0),(8,.int .u64 (s:Nat)),(9,.int .u64 (y1:Nat)),(10,.int .u64 (y0:Nat)),(14,.int .u64 (u0:Nat)),(15,.int .u64 (q1:Nat)),(17,.int .u64 (r1:Nat)),(18,.int .u64 (qb:Nat)),(16,.int .u64 (rb:Nat))] ?_)
   refine CG.loop (fun μ_ Γ w_=>∃ (p:Nat) (t:Nat) (h_:Hp),μ_=p∧Γ=[(2,.int .u64 (Y:Nat)),(6,.int .u64 0),(7,.int .u64 0),(8,.int .u64 (s:Nat)),(9,.int .u64 (y1:Nat)),(10,.int .u64 (y0:Nat)),(14,.int .u64 (u0:Nat)),(15,.int .u64 (q1:Nat)),(17,.int .u64 (r1:Nat)),(18,.int .u64 (p:Nat)),(16,.int .u64 (t:Nat))]∧SS w h w_ h_ [] [] []∧(HalfQ Y y1 y0 r1 u0 p t)∧(t<4294967296)) _ ⟨qb,rb,h21,rfl,rfl,hs.to _ _,hK0,oM⟩ ?_
   rintro _ _ w22 ⟨p,t,h23,hm24,rfl,hs,hK,ht⟩
   have hpb_:=hK.qb
   refine CG.seq (cSL (lL hs [.m 102 18] ?_))
   cases hb25:(decide ((4294967296:Int)≤((p:Nat):Int)))
   ·
    have phb25:=oF hb25
    refine lB 103 hb25 ?_
    refine lL hs [.m 104 103,.m 105 18,.m 106 10] (lV 107 (.int .u64 (p*y0:Nat)) ?_ (hr:=rint (n:=IntKind.wrap .u64 (((p:Nat):Int)*((y0:Nat):Int))) kR (fMU64 p y0 (mul32 oM oM))))
    refine lL hs [.m 108 16] (lV 109 (.int .u64 (4294967296*t:Nat)) ?_ (hr:=rint (n:=IntKind.wrap .u64 ((4294967296:Int)*((t:Nat):Int))) kR (fMU64 4294967296 t oM)))
    refine lL hs [.m 110 14] (lV 111 (.int .u64 ((4294967296*t)+u0:Nat)) ?_ (hr:=rint (n:=IntKind.wrap .u64 (((4294967296*t:Nat):Int)+((u0:Nat):Int))) kR (fAU64 (4294967296*t) u0 oM)))
    cases hb26:(decide ((((4294967296*t)+u0:Nat):Int)<((p*y0:Nat):Int)))
    ·
     have phb26:=oF hb26
     refine lB 112 hb26 ?_
     refine lL hs [.v 113 (.bool false)] (lN (cIF (CG.exit ?_)))
     intro a_ ka
     have q27:p=(r1*4294967296+u0)/Y∧(r1*4294967296+u0)-p*Y=(r1*4294967296+u0)%Y∧p*Y≤r1*4294967296+u0:=(by first|exact hK.fin hYY oM|exact hK2.brk hYY oM oM (by have:=hK2.qb;omega))
     exact ⟨_,⟨p,h23,rfl,hs.to _ _,q27⟩,ka.to [(2,.int .u64 (Y:Nat)),(6,.int .u64 0),(7,.int .u64 0),(8,.int .u64 (s:Nat)),(14,.int .u64 (u0:Nat)),(15,.int .u64 (q1:Nat)),(17,.int .u64 (r1:Nat)),(18,.int .u64 (p:Nat))] kR⟩
    have phb26:=oT hb26
    refine lB 112 hb26 ?_
    refine lL hs [.v 113 (.bool true)] (lN (cIT (CG.skipN (CG.block (cSL (lL hs [.m 114 18] ?_))))))
    have hq2:0<p:=by first|omega|exact pos_of_mul (show 4294967296*t+u0<p*y0 by omega)
    have hK2:=hK.dec hYY oM hr1Y (by first|exact .inl oM|exact .inr oM)
    refine lV 115 (.int .u64 (p-1:Nat)) ?_ (hr:=rint (n:=IntKind.wrap .u64 (((p:Nat):Int)-(1:Int))) kR (fSU64 p 1 oM oM))
    refine lL hs [.m 18 115] (lNS (lL hs [.m 116 16,.m 117 9] (lV 118 (.int .u64 (t+y1:Nat)) ?_ (hr:=rint (n:=IntKind.wrap .u64 (((t:Nat):Int)+((y1:Nat):Int))) kR (fAU64 t y1 oM)))))
    refine lL hs [.m 16 118] (lNS (lL hs [.m 119 16] ?_))
    cases hb28:(decide ((4294967296:Int)≤((t+y1:Nat):Int)))
    ·
     have phb28:=oF hb28
     refine lB 120 hb28 ?_
     refine lN (cIF (CG.skip ?_))
     intro a_ ka
     have q29:HalfQ Y y1 y0 r1 u0 (p-1) (t+y1):=hK2
     have q30:(t+y1)<4294967296:=oM
     refine ⟨_,_,?_,⟨p-1,t+y1,h23,rfl,rfl,hs.to _ _,q29,q30⟩,ka.to [(2,.int .u64 (Y:Nat)),(6,.int .u64 0),(7,.int .u64 0),(8,.int .u64 (s:Nat)),(9,.int .u64 (y1:Nat)),(10,.int .u64 (y0:Nat)),(14,.int .u64 (u0:Nat)),(15,.int .u64 (q1:Nat)),(17,.int .u64 (r1:Nat)),(18,.int .u64 ((p-1):Nat)),(16,.int .u64 ((t+y1):Nat))] kR⟩
     omega
    have phb28:=oT hb28
    refine lB 120 hb28 ?_
    refine lN (cIT (CG.exit ?_))
    intro a_ ka
    have q31:(p-1)=(r1*4294967296+u0)/Y∧(r1*4294967296+u0)-(p-1)*Y=(r1*4294967296+u0)%Y∧(p-1)*Y≤r1*4294967296+u0:=(by first|exact hK.fin hYY oM|exact hK2.brk hYY oM oM (by have:=hK2.qb;omega))
    exact ⟨_,⟨(p-1),h23,rfl,hs.to _ _,q31⟩,ka.to [(2,.int .u64 (Y:Nat)),(6,.int .u64 0),(7,.int .u64 0),(8,.int .u64 (s:Nat)),(14,.int .u64 (u0:Nat)),(15,.int .u64 (q1:Nat)),(17,.int .u64 (r1:Nat)),(18,.int .u64 ((p-1):Nat))] kR⟩
   have phb25:=oT hb25
   refine lB 103 hb25 ?_
   refine lL hs [.m 104 103] (lG 105 ?_)
   refine lG 106 ?_
   refine lG 107 ?_
   refine lG 108 ?_
   refine lG 109 ?_
   refine lG 110 ?_
   refine lG 111 ?_
   refine lG 112 ?_
   refine lL hs [.v 113 (.bool true)] (lN (cIT (CG.skipN (CG.block (cSL (lL hs [.m 114 18] ?_))))))
   have hq2:0<p:=by first|omega|exact pos_of_mul (show 4294967296*t+u0<p*y0 by omega)
   have hK2:=hK.dec hYY oM hr1Y (by first|exact .inl oM|exact .inr oM)
   refine lV 115 (.int .u64 (p-1:Nat)) ?_ (hr:=rint (n:=IntKind.wrap .u64 (((p:Nat):Int)-(1:Int))) kR (fSU64 p 1 oM oM))
   refine lL hs [.m 18 115] (lNS (lL hs [.m 116 16,.m 117 9] (lV 118 (.int .u64 (t+y1:Nat)) ?_ (hr:=rint (n:=IntKind.wrap .u64 (((t:Nat):Int)+((y1:Nat):Int))) kR (fAU64 t y1 oM)))))
   refine lL hs [.m 16 118] (lNS (lL hs [.m 119 16] ?_))
   cases hb32:(decide ((4294967296:Int)≤((t+y1:Nat):Int)))
   ·
    have phb32:=oF hb32
    refine lB 120 hb32 ?_
    refine lN (cIF (CG.skip ?_))
    intro a_ ka
    have q33:HalfQ Y y1 y0 r1 u0 (p-1) (t+y1):=hK2
    have q34:(t+y1)<4294967296:=oM
    refine ⟨_,_,?_,⟨p-1,t+y1,h23,rfl,rfl,hs.to _ _,q33,q34⟩,ka.to [(2,.int .u64 (Y:Nat)),(6,.int .u64 0),(7,.int .u64 0),(8,.int .u64 (s:Nat)),(9,.int .u64 (y1:Nat)),(10,.int .u64 (y0:Nat)),(14,.int .u64 (u0:Nat)),(15,.int .u64 (q1:Nat)),(17,.int .u64 (r1:Nat)),(18,.int .u64 ((p-1):Nat)),(16,.int .u64 ((t+y1):Nat))] kR⟩
    omega
   have phb32:=oT hb32
   refine lB 120 hb32 ?_
   refine lN (cIT (CG.exit ?_))
   intro a_ ka
   have q35:(p-1)=(r1*4294967296+u0)/Y∧(r1*4294967296+u0)-(p-1)*Y=(r1*4294967296+u0)%Y∧(p-1)*Y≤r1*4294967296+u0:=(by first|exact hK.fin hYY oM|exact hK2.brk hYY oM oM (by have:=hK2.qb;omega))
   exact ⟨_,⟨(p-1),h23,rfl,hs.to _ _,q35⟩,ka.to [(2,.int .u64 (Y:Nat)),(6,.int .u64 0),(7,.int .u64 0),(8,.int .u64 (s:Nat)),(14,.int .u64 (u0:Nat)),(15,.int .u64 (q1:Nat)),(17,.int .u64 (r1:Nat)),(18,.int .u64 ((p-1):Nat))] kR⟩
  rintro _ w36 ⟨p1,h37,rfl,hs,hE⟩
  refine cSL ?_
  obtain ⟨hE1,hE2,hE3⟩:=hE
  have hE4:=quo_lt32 (u1:=u0) hr1Y oM
  rw[←hE1] at hE4
  refine lL hs [.m 121 15] (lV 122 (.int .u64 (q1*4294967296:Nat)) ?_ (hr:=rint (n:=IntKind.wrap .u64 (((q1:Nat):Int)*(4294967296:Int))) kR (fMU64 q1 4294967296 oM)))
  refine lL hs [.m 123 18] (lV 124 (.int .u64 ((q1*4294967296)+p1:Nat)) ?_ (hr:=rint (n:=IntKind.wrap .u64 (((q1*4294967296:Nat):Int)+((p1:Nat):Int))) kR (fAU64 (q1*4294967296) p1 oM)))
  refine lL hs [.m 125 17] (lV 126 (.int .u64 ((r1*4294967296)%18446744073709551616:Nat)) ?_ (hr:=rint (n:=IntKind.wrap .u64 (((r1:Nat):Int)*(4294967296:Int))) kR (wMU64 r1 4294967296)))
  refine lL hs [.m 127 14] (lV 128 (.int .u64 ((((r1*4294967296)%18446744073709551616)+u0)%18446744073709551616:Nat)) ?_ (hr:=rint (n:=IntKind.wrap .u64 ((((r1*4294967296)%18446744073709551616:Nat):Int)+((u0:Nat):Int))) kR (wAU64 ((r1*4294967296)%18446744073709551616) u0)))
  refine lL hs [.m 129 18,.m 130 2] (lV 131 (.int .u64 ((p1*Y)%18446744073709551616:Nat)) ?_ (hr:=rint (n:=IntKind.wrap .u64 (((p1:Nat):Int)*((Y:Nat):Int))) kR (wMU64 p1 Y)))
  obtain ⟨R,hR⟩:∃ x_,x_=(r1*4294967296+u0)%Y:=⟨_,rfl⟩
  have hRY:R<Y:=by rw[hR];exact Nat.mod_lt _ oM
  refine lV 132 (.int .u64 (R:Nat)) ?_ (hr:=rint (rint (n:=IntKind.wrap .u64 ((((((r1*4294967296)%18446744073709551616)+u0)%18446744073709551616:Nat):Int)-(((p1*Y)%18446744073709551616:Nat):Int))) kR (wSU64 ((((r1*4294967296)%18446744073709551616)+u0)%18446744073709551616:Nat) ((p1*Y)%18446744073709551616) oM)) (by rw[wrap_rest hE3 (hE2.trans hR.symm) oM]))
  refine lL hs [.m 133 8] (lV 134 (.int .u64 (R/2^s:Nat)) ?_ (hr:=opShrN (t:=50) (u:=160) (x:=.tmp 132) (y:=.tmp 133) (ky:=.u64) (a:=R) (n:=s) kR kR kR oM _))
  refine lL hs [.m 6 124,.m 7 134] (lN (CG.ret ?_))
  obtain ⟨hB1,hB2⟩:=half_both (A:=hi*18446744073709551616+lo) (y:=y) hY hsh (show u10=u1*4294967296+u0 by omega) oM hF1 hr1 hE1 hR
  exact hs.ret [] (.tuple #[.int .u64 ((q1*4294967296)+p1:Nat),.int .u64 (R/2^s:Nat)]) (⟨_,_,rfl,hB1,hB2,by omega⟩)
 have phb3:=eq_of_beq hb3
 refine lB 27 hb3 ?_
 refine lN (cIT (CG.seq (cR 6 [] mixed hs al_nil ?_)))
 refine eV 0 28 (.int .u64 (lo:Nat)) ?_
 refine eV 1 29 (.int .u64 (y:Nat)) ?_
 refine eV 2 30 (.int .u64 (lo/y:Nat)) ?_ (hv:=fun _=>rint (opQuo (t:=50) (u:=50) (x:=.tmp 28) (y:=.tmp 29) (k:=.u64) (a:=((lo:Nat):Int)) (b:=((y:Nat):Int)) kR kR kR oM _) (quoU64 lo y oM))
 refine eV 3 31 (.int .u64 (lo:Nat)) ?_
 refine eV 4 32 (.int .u64 (y:Nat)) ?_
 refine eV 5 33 (.int .u64 (lo%y:Nat)) ?_ (hv:=fun _=>rint (opRem (t:=50) (u:=50) (x:=.tmp 31) (y:=.tmp 32) (k:=.u64) (a:=((lo:Nat):Int)) (b:=((y:Nat):Int)) kR kR kR oM _) (tmodNat lo y))
 refine eD0 hs (fun w38 h39 hs=>?_)
 refine tV 6 6 (.int .u64 (lo/y:Nat)) ?_
 refine tV 7 7 (.int .u64 (lo%y:Nat)) ?_
 refine tN (CG.ret ?_)
 have hdm:=Nat.div_add_mod lo y
 have hml:=Nat.mod_lt lo (show 0<y by omega)
 have hdle:=Nat.div_le_self lo y
 have hh0:hi=0:=by omega
 subst hh0
 exact hs.ret [] (.tuple #[.int .u64 (lo/y:Nat),.int .u64 (lo%y:Nat)]) (⟨lo/y,lo%y,rfl,by rw[Nat.zero_mul,Nat.zero_add];exact hdm.symm,hml,by omega⟩)
def RowW (h1:Hp)(v:Value)(m:Nat)(Q:List Nat→Prop):Prop:=∃ A c,∃ z:List Nat,v=.slice A z.length c∧z.length≤c∧z.length=m∧Wd z∧Q z∧SlO 1 u64c 0 h1 A z
theorem Wd.set {l:List Nat}(h:Wd l)(k:Nat){x:Nat}(hx:x<18446744073709551616):Wd (l.set k x):=Dg.set h k hx
theorem Wd.rep (n:Nat):Wd (List.replicate n 0):=Dg.rep kD
theorem zero_set {l:List Nat}{k j x:Nat}(hk:k<l.length)(h:∀ i,j≤i→l.getD i 0=0)(hj:k<j):∀ i,j≤i→(l.set k x).getD i 0=0:=fun i hi=>by rw[getD_set' hk,if_neg oM];exact h i hi
theorem nMulW (A:Option Addr)(c:Nat)(x:List Nat)(D:Option Addr)(d:Nat)(y:List Nat)(hx:Wd x)(hy:Wd y)(hlx:x.length≤1000000000)(hly:y.length≤1000000000)(w:World)(h:Hp)(g:G w h)(hA:SlO 1 u64c 0 h A x)(hD:SlO 1 u64c 0 h D y) :
    Calls Tryz.prog 109 #[.slice A x.length c,.slice D y.length d] w (Ret w h fun v h1=>RowW h1 v (x.length+y.length) (fun z=>wval z=wval x*wval y)):=by
 have hs:=SS.start g
 replace hs:=((hs.a_SlO hA).a_SlO hD)
 refine go Tryz.func109 [(0,.slice A x.length c),(1,.slice D y.length d)] rfl ?_
 refine cSL (lL hs [.v 4 (.slice none 0 0)] (lNS (lL hs [.m 15 0,.v 16 (.int .i64 (x.length:Nat)),.m 17 1,.v 18 (.int .i64 (y.length:Nat))] (lIn 19 ((x.length:Nat)+(y.length:Nat)) (x.length+y.length) ?_))))
 refine lK 20 50 (x.length+y.length) 1 8 (.int .u64 0) u64c 0 hs (fun b1 w2 h3 hs=>?_)
 have hl4:(List.replicate (x.length+y.length) 0).length=(x.length+y.length):=by simp
 refine lL hs [.m 5 20] (lN (CG.seq (cSL (lL hs [.m 21 0,.v 22 (.int .i64 (x.length:Nat)),.v 23 (.int .i64 0)] (lN (CG.block (cTo [(1,.slice D y.length d),(4,.slice none 0 0),(5,.slice (some ⟨b1,0,none⟩) (x.length+y.length) (x.length+y.length)),(21,.slice A x.length c),(22,.int .i64 (x.length:Nat)),(23,.int .i64 0)] ?_)))))))
 refine CG.loop (fun μ_ Γ w_=>∃ (i:Nat) (l:List Nat) (h_:Hp),μ_=x.length-i∧Γ=[(1,.slice D y.length d),(4,.slice none 0 0),(5,.slice (some ⟨b1,0,none⟩) (x.length+y.length) (x.length+y.length)),(21,.slice A x.length c),(22,.int .i64 (x.length:Nat)),(23,.int .i64 (i:Nat))]∧SS w h w_ h_ [⟨b1,50,(l).flatMap u64c⟩] [] [fun h_=>SlO 1 u64c 0 h_ D y,fun h_=>SlO 1 u64c 0 h_ A x]∧(i≤x.length)∧(l.length=x.length+y.length)∧(Wd l)∧(wval l=bval 18446744073709551616 (x.take i)*wval y)∧(∀ k,i+y.length≤k→l.getD k 0=0)) _ ⟨0,List.replicate (x.length+y.length) 0,h3,rfl,rfl,hs.to _ _,Nat.zero_le _,hl4,Wd.rep _,(by show bval _ _=_;rw[bval_rep];simp[bval]),fun k _=>getD_rep⟩ ?_
 rintro _ _ w5 ⟨i,l,h6,hm7,rfl,hs,hi,hll,hW,hv,hz⟩
 refine cSL ?_
 cases hb8:(decide (((i:Nat):Int)<((x.length:Nat):Int)))
 ·
  have phb8:=oF hb8
  refine lB 24 hb8 ?_
  refine lN (CG.seq (cIF (CG.exit ?_)))
  show CG _ _ _ _ _ _ _ _
  refine cSL (lL hs [.m 79 5,.m 4 79] (lN (CG.ret ?_)))
  have hix:i=x.length:=by omega
  rw[hix,List.take_length] at hv
  obtain ⟨h9,hs,sg10,lo11,bc12⟩:=hs.pub 0
  replace hs:=(hs.to [] []).a_SlO (SlO.of_flat (sz:=1) (f:=u64c) (d:=0) (b:=b1) (o:=0) (l:=l) (fun _=>rfl) sg10)
  exact hs.ret [] (.slice (some ⟨b1,0,none⟩) (x.length+y.length) (x.length+y.length)) (⟨some ⟨b1,0,none⟩,_,l,by rw[hll],by omega,hll,hW,hv,(hs.f.1)⟩)
 have phb8:=oT hb8
 refine lB 24 hb8 ?_
 refine lN (CG.seq (cIT (CG.skipN (CG.seq (CG.block (cSL (lL hs [.m 25 23] (lX 26 A x.length c 1 (i:Nat) i ((hs.f.2.1).ok oM) ?_))))))))
 refine lH 27 (.int .u64 (x.getD i 0:Nat)) hs ((hs.f.2.1).el i oM) ?_
 refine lL hs [.m 6 25,.m 7 27] (lNS (lL hs [.v 8 (.int .u64 0)] (lN (CG.seq (cSL (lL hs [.m 28 1,.v 29 (.int .i64 (y.length:Nat)),.v 30 (.int .i64 0)] (lN (CG.block (cTo [(1,.slice D y.length d),(4,.slice none 0 0),(5,.slice (some ⟨b1,0,none⟩) (x.length+y.length) (x.length+y.length)),(21,.slice A x.length c),(22,.int .i64 (x.length:Nat)),(23,.int .i64 (i:Nat)),(6,.int .i64 (i:Nat)),(7,.int .u64 (x.getD i 0:Nat)),(28,.slice D y.length d),(29,.int .i64 (y.length:Nat)),(30,.int .i64 0),(8,.int .u64 0)] ?_)))))))))
 refine CG.loop (fun μ_ Γ w_=>∃ (j:Nat) (l2:List Nat) (cy:Nat) (h_:Hp),μ_=y.length-j∧Γ=[(1,.slice D y.length d),(4,.slice none 0 0),(5,.slice (some ⟨b1,0,none⟩) (x.length+y.length) (x.length+y.length)),(21,.slice A x.length c),(22,.int .i64 (x.length:Nat)),(23,.int .i64 (i:Nat)),(6,.int .i64 (i:Nat)),(7,.int .u64 (x.getD i 0:Nat)),(28,.slice D y.length d),(29,.int .i64 (y.length:Nat)),(30,.int .i64 (j:Nat)),(8,.int .u64 (cy:Nat))]∧SS w h w_ h_ [⟨b1,50,(l2).flatMap u64c⟩] [] [fun h_=>SlO 1 u64c 0 h_ D y,fun h_=>SlO 1 u64c 0 h_ A x]∧(j≤y.length)∧(l2.length=x.length+y.length)∧(Wd l2)∧(cy<18446744073709551616)∧(bval 18446744073709551616 l2+18446744073709551616^(i+j)*cy=wval l+18446744073709551616^i*(x.getD i 0*bval 18446744073709551616 (y.take j)))∧(∀ k,i+y.length≤k→l2.getD k 0=0)) _ ⟨0,l,0,h6,rfl,rfl,hs.to _ _,Nat.zero_le _,hll,hW,by omega,(by show bval _ l+_=bval _ l+_;simp[bval]),hz⟩ ?_
 rintro _ _ w14 ⟨j,l2,cy,h15,hm16,rfl,hs,hj,hll2,hW2,hc,inv,hz2⟩
 have hlk:=hW2.get (i+j)
 refine cSL ?_
 cases hb17:(decide (((j:Nat):Int)<((y.length:Nat):Int)))
 ·
  have phb17:=oF hb17
  refine lB 31 hb17 ?_
  refine lN (CG.seq (cIF (CG.exit ?_)))
  show CG _ _ _ _ _ _ _ _
  refine CG.listed (lL hs [.m 71 5,.m 72 6,.m 73 1,.v 74 (.int .i64 (y.length:Nat))] (lIn 75 ((i:Nat)+(y.length:Nat)) (i+y.length) ?_))
  refine lL hs [.m 76 8] (lX 77 (some ⟨b1,0,none⟩) (x.length+y.length) (x.length+y.length) 1 (i+y.length:Nat) (i+y.length) rfl ?_)
  refine lW 0 l2 u64c 1 (i+y.length) cy hs oM (fun w18 hs=>?_)
  have hl19:((l2).set (i+y.length) cy).length=(x.length+y.length):=by rw[List.length_set];exact hll2
  replace hs:=hs.to [⟨b1,50,((l2).set (i+y.length) cy).flatMap u64c⟩] []
  refine lN (CG.listed (lIn 78 ((i:Nat)+1) (i+1) ?_))
  refine lL hs [.m 23 78] (lD ?_)
  intro a_ ka
  have q20:(i+1)≤x.length:=by omega
  have q21:((l2).set (i+y.length) cy).length=x.length+y.length:=hl19
  have q22:Wd ((l2).set (i+y.length) cy):=(hW2.set _ hc)
  have q23:wval ((l2).set (i+y.length) cy)=bval 18446744073709551616 (x.take (i+1))*wval y:=(by have hjy:j=y.length:=oM;rw[hjy] at inv;exact (mul_end oM inv (hz2 _ oM)).trans (mul_row hv))
  have q24:∀ k,(i+1)+y.length≤k→((l2).set (i+y.length) cy).getD k 0=0:=zero_set oM (fun k hk=>hz2 k oM) oM
  refine ⟨_,_,?_,⟨i+1,(l2).set (i+y.length) cy,h15,rfl,rfl,hs.to _ _,q20,q21,q22,q23,q24⟩,ka.to [(1,.slice D y.length d),(4,.slice none 0 0),(5,.slice (some ⟨b1,0,none⟩) (x.length+y.length) (x.length+y.length)),(21,.slice A x.length c),(22,.int .i64 (x.length:Nat)),(23,.int .i64 ((i+1):Nat))] kR⟩
  omega
 have phb17:=oT hb17
 refine lB 31 hb17 ?_
 refine lN (CG.seq (cIT (CG.skipN (CG.seq (CG.block (cSL (lL hs [.m 32 30] (lX 33 D y.length d 1 (j:Nat) j ((hs.f.1).ok oM) ?_))))))))
 refine lH 34 (.int .u64 (y.getD j 0:Nat)) hs ((hs.f.1).el j oM) ?_
 refine lL hs [.m 9 32,.m 10 34] (lNS (lL hs [.m 36 7,.m 37 10] (lC 38 hs (bMul64 (x.getD i 0) (y.getD j 0) wM wM _ _ hs.g) ?_)))
 rintro _ w31 h32 hs ⟨s25,c26,rfl,he27,hl28,hm29,hn30⟩
 have hxhe27:=mul64_le (a:=(x.getD i 0)) (b:=(y.getD j 0)) wM wM
 refine lL hs [.m 35 38,.v 39 (.int .u64 (s25:Nat)),.v 40 (.int .u64 (c26:Nat)),.m 11 39,.m 12 40] (lNS (lL hs [.m 42 12,.m 43 5,.m 44 6,.m 45 9] (lIn 46 ((i:Nat)+(j:Nat)) (i+j) ?_)))
 refine lX 47 (some ⟨b1,0,none⟩) (x.length+y.length) (x.length+y.length) 1 (i+j:Nat) (i+j) rfl ?_
 refine lQ 48 0 l2 u64c 1 0 (i+j) (.int .u64 ((l2).getD (i+j) 0:Nat)) hs oM ?_
 obtain ⟨s33,c34,he35,hl36,hm37,hr38⟩:=bAdd64 c26 ((l2).getD (i+j) 0) 0 wM wM oM
 refine lV 49 (.tuple #[.int .u64 (s33:Nat),.int .u64 (c34:Nat)]) ?_ (hr:=opExt kR (hr38 _))
 refine lL hs [.m 41 49,.v 50 (.int .u64 (s33:Nat)),.v 51 (.int .u64 (c34:Nat)),.m 13 50,.m 14 51] (lNS (lL hs [.m 52 11,.m 53 14] (lV 54 (.int .u64 (s25+c34:Nat)) ?_ (hr:=rint (n:=IntKind.wrap .u64 (((s25:Nat):Int)+((c34:Nat):Int))) kR (fAU64 s25 c34 oM)))))
 refine lL hs [.m 11 54] (lN (cTo [(1,.slice D y.length d),(4,.slice none 0 0),(5,.slice (some ⟨b1,0,none⟩) (x.length+y.length) (x.length+y.length)),(21,.slice A x.length c),(22,.int .i64 (x.length:Nat)),(23,.int .i64 (i:Nat)),(6,.int .i64 (i:Nat)),(7,.int .u64 (x.getD i 0:Nat)),(28,.slice D y.length d),(29,.int .i64 (y.length:Nat)),(30,.int .i64 (j:Nat)),(8,.int .u64 (cy:Nat)),(9,.int .i64 (j:Nat)),(11,.int .u64 (s25+c34:Nat)),(13,.int .u64 (s33:Nat)),(14,.int .u64 (c34:Nat))] ?_))
 refine cSL (lL hs [.m 56 13,.m 57 8] ?_)
 obtain ⟨s39,c40,he41,hl42,hm43,hr44⟩:=bAdd64 s33 cy 0 wM wM oM
 refine lV 58 (.tuple #[.int .u64 (s39:Nat),.int .u64 (c40:Nat)]) ?_ (hr:=opExt kR (hr44 _))
 refine lL hs [.m 55 58,.v 59 (.int .u64 (s39:Nat)),.v 60 (.int .u64 (c40:Nat)),.m 13 59,.m 14 60] (lN (CG.listed (lL hs [.m 61 5,.m 62 6,.m 63 9] (lIn 64 ((i:Nat)+(j:Nat)) (i+j) ?_))))
 refine lL hs [.m 65 13,.m 66 11,.m 67 14] (lV 68 (.int .u64 ((s25+c34)+c40:Nat)) ?_ (hr:=rint (n:=IntKind.wrap .u64 (((s25+c34:Nat):Int)+((c40:Nat):Int))) kR (fAU64 (s25+c34) c40 oM)))
 refine lX 69 (some ⟨b1,0,none⟩) (x.length+y.length) (x.length+y.length) 1 (i+j:Nat) (i+j) rfl ?_
 refine lW 0 l2 u64c 1 (i+j) s39 hs oM (fun w45 hs=>?_)
 have hl46:((l2).set (i+j) s39).length=(x.length+y.length):=by rw[List.length_set];exact hll2
 replace hs:=hs.to [⟨b1,50,((l2).set (i+j) s39).flatMap u64c⟩] []
 refine lL hs [.m 8 68] (lN (CG.listed (lIn 70 ((j:Nat)+1) (j+1) ?_)))
 refine lL hs [.m 30 70] (lD ?_)
 intro a_ ka
 have q47:(j+1)≤y.length:=by omega
 have q48:((l2).set (i+j) s39).length=x.length+y.length:=hl46
 have q49:Wd ((l2).set (i+j) s39):=(hW2.set _ oM)
 have q50:((s25+c34)+c40)<18446744073709551616:=by omega
 have q51:bval 18446744073709551616 ((l2).set (i+j) s39)+18446744073709551616^(i+(j+1))*((s25+c34)+c40)=wval l+18446744073709551616^i*(x.getD i 0*bval 18446744073709551616 (y.take (j+1))):=mul_step oM inv oM
 have q52:∀ k,i+y.length≤k→((l2).set (i+j) s39).getD k 0=0:=zero_set oM hz2 oM
 refine ⟨_,_,?_,⟨j+1,(l2).set (i+j) s39,((s25+c34)+c40),h32,rfl,rfl,hs.to _ _,q47,q48,q49,q50,q51,q52⟩,ka.to [(1,.slice D y.length d),(4,.slice none 0 0),(5,.slice (some ⟨b1,0,none⟩) (x.length+y.length) (x.length+y.length)),(21,.slice A x.length c),(22,.int .i64 (x.length:Nat)),(23,.int .i64 (i:Nat)),(6,.int .i64 (i:Nat)),(7,.int .u64 (x.getD i 0:Nat)),(28,.slice D y.length d),(29,.int .i64 (y.length:Nat)),(30,.int .i64 ((j+1):Nat)),(8,.int .u64 (((s25+c34)+c40):Nat))] kR⟩
 omega
theorem shd_big {x:List Nat}(hx:Wd x){n:Nat}(h:x.length≤n/64):wval x<2^n:=by
  have h1:=bval_lt hx
  have h2:(18446744073709551616:Nat)^x.length=2^(64*x.length):=by rw[Nat.pow_mul]
  have h3:(2:Nat)^(64*x.length)≤2^n:=Nat.pow_le_pow_right oM oM
  show bval _ x<_
  omega
theorem zero_set2 {l:List Nat}{k x:Nat}(hk:k<l.length)(h:∀ i,k≤i→l.getD i 0=0):∀ i,k+1≤i→(l.set k x).getD i 0=0:=fun i hi=>by rw[getD_set' hk,if_neg oM];exact h i oM
theorem nShUp (A:Option Addr)(c:Nat)(x:List Nat)(hx:Wd x)(hlx:x.length≤1000000000)(n:Nat)(hn:n≤1000000000)(w:World)(h:Hp)(g:G w h)(hA:SlO 1 u64c 0 h A x) :
    Calls Tryz.prog 152 #[.slice A x.length c,.int .i64 (n:Nat)] w (Ret w h fun v h1=>RowW h1 v (x.length+n/64+1) (fun z=>wval z=wval x*2^n)):=by
 have hs:=SS.start g
 replace hs:=(hs.a_SlO hA)
 refine go Tryz.func152 [(0,.slice A x.length c),(1,.int .i64 (n:Nat))] rfl ?_
 refine cSL (lL hs [.v 4 (.slice none 0 0)] (lNS (lL hs [.m 10 1] (lV 11 (.int .i64 (n/64:Nat)) ?_ (hr:=rint (opQuo (t:=3) (u:=3) (x:=.tmp 10) (y:=.const (.int .i64 64)) (k:=.i64) (a:=((n:Nat):Int)) (b:=(64:Int)) kR kR kR oM _) (quoI64 n 64 oM))))))
 refine lL hs [.m 12 1] (lV 13 (.int .i64 (n%64:Nat)) ?_ (hr:=rint (opRem (t:=3) (u:=3) (x:=.tmp 12) (y:=.const (.int .i64 64)) (k:=.i64) (a:=((n:Nat):Int)) (b:=(64:Int)) kR kR kR oM _) (tmodNat n 64)))
 refine lV 14 (.int .u64 (n%64:Nat)) ?_ (hr:=rint (n:=IntKind.wrap .u64 ((n%64:Nat):Int)) kR (fitU64 oM oM))
 refine lL hs [.m 5 11,.m 6 14] (lNS (lL hs [.m 15 0,.v 16 (.int .i64 (x.length:Nat)),.m 17 5] (lIn 18 ((x.length:Nat)+(n/64:Nat)) (x.length+(n/64)) ?_)))
 refine lIn 19 ((x.length+(n/64):Nat)+1) ((x.length+(n/64))+1) ?_
 refine lK 20 50 ((x.length+(n/64))+1:Nat) 1 8 (.int .u64 0) u64c 0 hs (fun b1 w2 h3 hs=>?_)
 have hl4:(List.replicate ((x.length+(n/64))+1:Nat) 0).length=((x.length+(n/64))+1:Nat):=by simp
 refine lL hs [.m 7 20] (lN (CG.seq (cSL (lL hs [.m 21 0,.v 22 (.int .i64 (x.length:Nat)),.v 23 (.int .i64 0)] (lN (CG.block (cTo [(4,.slice none 0 0),(5,.int .i64 (n/64:Nat)),(6,.int .u64 (n%64:Nat)),(7,.slice (some ⟨b1,0,none⟩) ((x.length+(n/64))+1:Nat) ((x.length+(n/64))+1:Nat)),(21,.slice A x.length c),(22,.int .i64 (x.length:Nat)),(23,.int .i64 0)] ?_)))))))
 refine CG.loop (fun μ_ Γ w_=>∃ (i:Nat) (l:List Nat) (h_:Hp),μ_=x.length-i∧Γ=[(4,.slice none 0 0),(5,.int .i64 (n/64:Nat)),(6,.int .u64 (n%64:Nat)),(7,.slice (some ⟨b1,0,none⟩) ((x.length+(n/64))+1:Nat) ((x.length+(n/64))+1:Nat)),(21,.slice A x.length c),(22,.int .i64 (x.length:Nat)),(23,.int .i64 (i:Nat))]∧SS w h w_ h_ [⟨b1,50,(l).flatMap u64c⟩] [] [fun h_=>SlO 1 u64c 0 h_ A x]∧(i≤x.length)∧(l.length=x.length+n/64+1)∧(Wd l)∧(wval l=2^(n%64)*(18446744073709551616^(n/64)*bval 18446744073709551616 (x.take i)))∧(l.getD (i+n/64) 0<2^(n%64))∧(∀ k,i+n/64+1≤k→l.getD k 0=0)) _ ⟨0,List.replicate ((x.length+(n/64))+1:Nat) 0,h3,rfl,rfl,hs.to _ _,Nat.zero_le _,hl4,Wd.rep _,(by show bval _ _=_;rw[bval_rep];simp[bval]),(by rw[getD_rep];exact Nat.two_pow_pos _),fun k _=>getD_rep⟩ ?_
 rintro _ _ w5 ⟨i,l,h6,hm7,rfl,hs,hi,hll,hW,hv,ho,hz⟩
 refine cSL ?_
 cases hb8:(decide (((i:Nat):Int)<((x.length:Nat):Int)))
 ·
  have phb8:=oF hb8
  refine lB 24 hb8 ?_
  refine lN (CG.seq (cIF (CG.exit ?_)))
  show CG _ _ _ _ _ _ _ _
  refine cSL (lL hs [.m 50 7,.m 4 50] (lN (CG.ret ?_)))
  have hix:i=x.length:=by omega
  rw[hix,List.take_length] at hv
  obtain ⟨h9,hs,sg10,lo11,bc12⟩:=hs.pub 0
  replace hs:=(hs.to [] []).a_SlO (SlO.of_flat (sz:=1) (f:=u64c) (d:=0) (b:=b1) (o:=0) (l:=l) (fun _=>rfl) sg10)
  exact hs.ret [] (.slice (some ⟨b1,0,none⟩) ((x.length+(n/64))+1:Nat) ((x.length+(n/64))+1:Nat)) (⟨some ⟨b1,0,none⟩,_,l,by rw[hll],by omega,hll,hW,(by show wval l=_;rw[hv,pow_n n];show _*(_*wval x)=_;ac_rfl),(hs.f.1)⟩)
 have phb8:=oT hb8
 refine lB 24 hb8 ?_
 refine lN (CG.seq (cIT (CG.skipN (CG.seq (CG.block (cSL (lL hs [.m 25 23] (lX 26 A x.length c 1 (i:Nat) i ((hs.f.1).ok oM) ?_))))))))
 refine lH 27 (.int .u64 (x.getD i 0:Nat)) hs ((hs.f.1).el i oM) ?_
 refine lL hs [.m 8 25,.m 9 27] (lNS (lL hs [.m 28 7,.m 29 8,.m 30 5] (lIn 31 ((i:Nat)+(n/64:Nat)) (i+(n/64)) ?_)))
 refine lX 32 (some ⟨b1,0,none⟩) ((x.length+(n/64))+1:Nat) ((x.length+(n/64))+1:Nat) 1 (i+(n/64):Nat) (i+(n/64)) rfl ?_
 refine lQ 33 0 l u64c 1 0 (i+(n/64)) (.int .u64 ((l).getD (i+(n/64)) 0:Nat)) hs oM ?_
 refine lL hs [.m 34 9,.m 35 6] (lV 36 (.int .u64 ((x.getD i 0)*2^(n%64)%18446744073709551616:Nat)) ?_ (hr:=opShlN (t:=50) (u:=160) (x:=.tmp 34) (y:=.tmp 35) (ky:=.u64) (a:=(x.getD i 0)) (n:=(n%64)) kR kR kR _))
 have hxi:=hx.get i
 obtain ⟨hS1,hS2,hS3,hS4⟩:=shl_word (x:=x.getD i 0) (p:=n%64) (o:=l.getD (i+n/64) 0) oM hxi ho
 have hlg:=hW.get (i+n/64)
 refine lV 37 (.int .u64 (l.getD (i+n/64) 0+x.getD i 0*2^(n%64)%18446744073709551616:Nat)) ?_ (hr:=rint (opOr (t:=50) (u:=50) (x:=.tmp 33) (y:=.tmp 36) (a:=((l).getD (i+(n/64)) 0:Nat)) (b:=((x.getD i 0)*2^(n%64)%18446744073709551616)) kR kR kR oM oM _) (by rw[hS1]))
 refine lX 38 (some ⟨b1,0,none⟩) ((x.length+(n/64))+1:Nat) ((x.length+(n/64))+1:Nat) 1 (i+(n/64):Nat) (i+(n/64)) rfl ?_
 refine lW 0 l u64c 1 (i+(n/64)) (l.getD (i+n/64) 0+x.getD i 0*2^(n%64)%18446744073709551616) hs oM (fun w14 hs=>?_)
 have hl15:((l).set (i+(n/64)) (l.getD (i+n/64) 0+x.getD i 0*2^(n%64)%18446744073709551616)).length=((x.length+(n/64))+1:Nat):=by rw[List.length_set];exact hll
 replace hs:=hs.to [⟨b1,50,((l).set (i+(n/64)) (l.getD (i+n/64) 0+x.getD i 0*2^(n%64)%18446744073709551616)).flatMap u64c⟩] []
 refine lN (CG.listed (lL hs [.m 39 7,.m 40 8,.m 41 5] (lIn 42 ((i:Nat)+(n/64:Nat)) (i+(n/64)) ?_)))
 refine lIn 43 ((i+(n/64):Nat)+1) ((i+(n/64))+1) ?_
 refine lL hs [.m 44 9,.m 45 6] (lV 46 (.int .u64 (64-(n%64):Nat)) ?_ (hr:=rint (n:=IntKind.wrap .u64 ((64:Int)-((n%64:Nat):Int))) kR (fSU64 64 (n%64) oM oM)))
 refine lV 47 (.int .u64 ((x.getD i 0)/2^(64-(n%64)):Nat)) ?_ (hr:=opShrN (t:=50) (u:=160) (x:=.tmp 44) (y:=.tmp 46) (ky:=.u64) (a:=(x.getD i 0)) (n:=(64-(n%64))) kR kR kR oM _)
 refine lX 48 (some ⟨b1,0,none⟩) ((x.length+(n/64))+1:Nat) ((x.length+(n/64))+1:Nat) 1 ((i+(n/64))+1:Nat) ((i+(n/64))+1:Nat) rfl ?_
 refine lW 0 ((l).set (i+(n/64)) (l.getD (i+n/64) 0+x.getD i 0*2^(n%64)%18446744073709551616)) u64c 1 ((i+(n/64))+1:Nat) ((x.getD i 0)/2^(64-(n%64)):Nat) hs oM (fun w16 hs=>?_)
 have hl17:(((l).set (i+(n/64)) (l.getD (i+n/64) 0+x.getD i 0*2^(n%64)%18446744073709551616)).set ((i+(n/64))+1:Nat) ((x.getD i 0)/2^(64-(n%64)):Nat)).length=((x.length+(n/64))+1:Nat):=by rw[List.length_set];exact hl15
 replace hs:=hs.to [⟨b1,50,(((l).set (i+(n/64)) (l.getD (i+n/64) 0+x.getD i 0*2^(n%64)%18446744073709551616)).set ((i+(n/64))+1:Nat) ((x.getD i 0)/2^(64-(n%64)):Nat)).flatMap u64c⟩] []
 refine lN (CG.listed (lIn 49 ((i:Nat)+1) (i+1) ?_))
 refine lL hs [.m 23 49] (lD ?_)
 intro a_ ka
 have q18:(i+1)≤x.length:=by omega
 have q19:(((l).set (i+(n/64)) (l.getD (i+n/64) 0+x.getD i 0*2^(n%64)%18446744073709551616)).set ((i+(n/64))+1:Nat) ((x.getD i 0)/2^(64-(n%64)):Nat)).length=x.length+n/64+1:=hl17
 have q20:Wd (((l).set (i+(n/64)) (l.getD (i+n/64) 0+x.getD i 0*2^(n%64)%18446744073709551616)).set ((i+(n/64))+1:Nat) ((x.getD i 0)/2^(64-(n%64)):Nat)):=((hW.set _ hS2).set _ (by have:=Nat.div_le_self (x.getD i 0) (2^(64-n%64));omega))
 have q21:wval (((l).set (i+(n/64)) (l.getD (i+n/64) 0+x.getD i 0*2^(n%64)%18446744073709551616)).set ((i+(n/64))+1:Nat) ((x.getD i 0)/2^(64-(n%64)):Nat))=2^(n%64)*(18446744073709551616^(n/64)*bval 18446744073709551616 (x.take (i+1))):=shu_step oM hv (hz _ oM) hS3 rfl rfl
 have q22:(((l).set (i+(n/64)) (l.getD (i+n/64) 0+x.getD i 0*2^(n%64)%18446744073709551616)).set ((i+(n/64))+1:Nat) ((x.getD i 0)/2^(64-(n%64)):Nat)).getD ((i+1)+n/64) 0<2^(n%64):=(by rw[show i+1+n/64=i+n/64+1 by omega,getD_set' (by rw[List.length_set];omega),if_pos rfl];exact hS4)
 have q23:∀ k,(i+1)+n/64+1≤k→(((l).set (i+(n/64)) (l.getD (i+n/64) 0+x.getD i 0*2^(n%64)%18446744073709551616)).set ((i+(n/64))+1:Nat) ((x.getD i 0)/2^(64-(n%64)):Nat)).getD k 0=0:=(fun k hk=>by rw[getD_set' (by rw[List.length_set];omega),if_neg oM,getD_set' oM,if_neg oM];exact hz k oM)
 refine ⟨_,_,?_,⟨i+1,((l).set (i+(n/64)) (l.getD (i+n/64) 0+x.getD i 0*2^(n%64)%18446744073709551616)).set ((i+(n/64))+1:Nat) ((x.getD i 0)/2^(64-(n%64)):Nat),h6,rfl,rfl,hs.to _ _,q18,q19,q20,q21,q22,q23⟩,ka.to [(4,.slice none 0 0),(5,.int .i64 (n/64:Nat)),(6,.int .u64 (n%64:Nat)),(7,.slice (some ⟨b1,0,none⟩) ((x.length+(n/64))+1:Nat) ((x.length+(n/64))+1:Nat)),(21,.slice A x.length c),(22,.int .i64 (x.length:Nat)),(23,.int .i64 ((i+1):Nat))] kR⟩
 omega
theorem nShDn (A:Option Addr)(c:Nat)(x:List Nat)(hx:Wd x)(hlx:x.length≤1000000000)(n:Nat)(hn:n≤1000000000)(w:World)(h:Hp)(g:G w h)(hA:SlO 1 u64c 0 h A x) :
    Calls Tryz.prog 154 #[.slice A x.length c,.int .i64 (n:Nat)] w (Ret w h fun v h1=>RowW h1 v (x.length-n/64) (fun z=>wval z=wval x/2^n)):=by
 have hs:=SS.start g
 replace hs:=(hs.a_SlO hA)
 refine go Tryz.func154 [(0,.slice A x.length c),(1,.int .i64 (n:Nat))] rfl ?_
 refine cSL (lL hs [.v 4 (.slice none 0 0)] (lNS (lL hs [.m 9 1] (lV 10 (.int .i64 (n/64:Nat)) ?_ (hr:=rint (opQuo (t:=3) (u:=3) (x:=.tmp 9) (y:=.const (.int .i64 64)) (k:=.i64) (a:=((n:Nat):Int)) (b:=(64:Int)) kR kR kR oM _) (quoI64 n 64 oM))))))
 refine lL hs [.m 11 1] (lV 12 (.int .i64 (n%64:Nat)) ?_ (hr:=rint (opRem (t:=3) (u:=3) (x:=.tmp 11) (y:=.const (.int .i64 64)) (k:=.i64) (a:=((n:Nat):Int)) (b:=(64:Int)) kR kR kR oM _) (tmodNat n 64)))
 refine lV 13 (.int .u64 (n%64:Nat)) ?_ (hr:=rint (n:=IntKind.wrap .u64 ((n%64:Nat):Int)) kR (fitU64 oM oM))
 refine lL hs [.m 5 10,.m 6 13] (lN (CG.seq (cSL (lL hs [.m 14 5,.m 15 0,.v 16 (.int .i64 (x.length:Nat))] ?_))))
 cases hb1:(decide (((x.length:Nat):Int)≤((n/64:Nat):Int)))
 ·
  have phb1:=oF hb1
  refine lB 17 hb1 ?_
  refine lN (cIF (CG.skipN (cSL (lL hs [.m 18 0,.v 19 (.int .i64 (x.length:Nat)),.m 20 5] (lIn 21 ((x.length:Nat)-(n/64:Nat)) (x.length-(n/64)) ?_)))))
  refine lK 22 50 (x.length-(n/64)) 1 8 (.int .u64 0) u64c 0 hs (fun b2 w3 h4 hs=>?_)
  have hl5:(List.replicate (x.length-(n/64)) 0).length=(x.length-(n/64)):=by simp
  refine lL hs [.m 7 22] (lN (CG.seq (cSL (lL hs [.m 23 7,.v 24 (.int .i64 ((x.length-(n/64)):Nat)),.v 25 (.int .i64 0)] (lN (CG.block (cTo [(0,.slice A x.length c),(4,.slice none 0 0),(5,.int .i64 (n/64:Nat)),(6,.int .u64 (n%64:Nat)),(7,.slice (some ⟨b2,0,none⟩) (x.length-(n/64)) (x.length-(n/64))),(24,.int .i64 ((x.length-(n/64)):Nat)),(25,.int .i64 0)] ?_)))))))
  refine CG.loop (fun μ_ Γ w_=>∃ (i:Nat) (l:List Nat) (h_:Hp),μ_=x.length-n/64-i∧Γ=[(0,.slice A x.length c),(4,.slice none 0 0),(5,.int .i64 (n/64:Nat)),(6,.int .u64 (n%64:Nat)),(7,.slice (some ⟨b2,0,none⟩) (x.length-(n/64)) (x.length-(n/64))),(24,.int .i64 ((x.length-(n/64)):Nat)),(25,.int .i64 (i:Nat))]∧SS w h w_ h_ [⟨b2,50,(l).flatMap u64c⟩] [] [fun h_=>SlO 1 u64c 0 h_ A x]∧(i≤x.length-n/64)∧(l.length=x.length-n/64)∧(Wd l)∧(2^(n%64)*bval 18446744073709551616 l+(x.drop (n/64)).getD 0 0%2^(n%64)=bval 18446744073709551616 ((x.drop (n/64)).take i)+18446744073709551616^i*((x.drop (n/64)).getD i 0%2^(n%64)))∧(∀ k,i≤k→l.getD k 0=0)) _ ⟨0,List.replicate (x.length-(n/64)) 0,h4,rfl,rfl,hs.to _ _,Nat.zero_le _,hl5,Wd.rep _,(by rw[bval_rep];simp[bval]),fun k _=>getD_rep⟩ ?_
  rintro _ _ w6 ⟨i,l,h7,hm8,rfl,hs,hi,hll,hW,inv,hz⟩
  refine cSL ?_
  cases hb9:(decide (((i:Nat):Int)<(((x.length-(n/64)):Nat):Int)))
  ·
   have phb9:=oF hb9
   refine lB 26 hb9 ?_
   refine lN (CG.seq (cIF (CG.exit ?_)))
   show CG _ _ _ _ _ _ _ _
   refine cSL (lL hs [.m 63 7,.m 4 63] (lN (CG.ret ?_)))
   have hix:i=x.length-n/64:=by omega
   have hE:=shd_end (W:=x.drop (n/64)) (m:=i) (by rw[List.length_drop];omega) inv
   rw[wval_drop hx oM,Nat.div_div_eq_div_mul,←pow_n n] at hE
   obtain ⟨h10,hs,sg11,lo12,bc13⟩:=hs.pub 0
   replace hs:=(hs.to [] []).a_SlO (SlO.of_flat (sz:=1) (f:=u64c) (d:=0) (b:=b2) (o:=0) (l:=l) (fun _=>rfl) sg11)
   exact hs.ret [] (.slice (some ⟨b2,0,none⟩) (x.length-(n/64)) (x.length-(n/64))) (⟨some ⟨b2,0,none⟩,_,l,by rw[hll],by omega,by omega,hW,hE,(hs.f.1)⟩)
  have phb9:=oT hb9
  refine lB 26 hb9 ?_
  refine lN (CG.seq (cIT (CG.skipN (CG.seq (CG.block (cSL (lL hs [.m 27 25,.m 8 27] (lNS (lL hs [.m 28 7,.m 29 8,.m 30 0,.m 31 8,.m 32 5] (lIn 33 ((i:Nat)+(n/64:Nat)) (i+(n/64)) ?_))))))))))
  refine lX 34 A x.length c 1 (i+(n/64):Nat) (i+(n/64)) ((hs.f.1).ok oM) ?_
  refine lH 35 (.int .u64 (x.getD (i+(n/64)) 0:Nat)) hs ((hs.f.1).el (i+(n/64)) oM) ?_
  refine lL hs [.m 36 6] ?_
  have hxi:=hx.get (i+n/64)
  refine lV 37 (.int .u64 ((x.getD (i+(n/64)) 0:Nat)/2^(n%64):Nat)) ?_ (hr:=opShrN (t:=50) (u:=160) (x:=.tmp 35) (y:=.tmp 36) (ky:=.u64) (a:=(x.getD (i+(n/64)) 0:Nat)) (n:=(n%64)) kR kR kR oM _)
  refine lX 38 (some ⟨b2,0,none⟩) (x.length-(n/64)) (x.length-(n/64)) 1 (i:Nat) i rfl ?_
  refine lW 0 l u64c 1 i ((x.getD (i+(n/64)) 0:Nat)/2^(n%64):Nat) hs oM (fun w15 hs=>?_)
  have hl16:((l).set i ((x.getD (i+(n/64)) 0:Nat)/2^(n%64):Nat)).length=(x.length-(n/64)):=by rw[List.length_set];exact hll
  replace hs:=hs.to [⟨b2,50,((l).set i ((x.getD (i+(n/64)) 0:Nat)/2^(n%64):Nat)).flatMap u64c⟩] []
  refine lNS (lL hs [.m 39 8,.m 40 5] (lIn 41 ((i:Nat)+(n/64:Nat)) (i+(n/64)) ?_))
  refine lIn 42 ((i+(n/64):Nat)+1) ((i+(n/64))+1) ?_
  refine lL hs [.m 43 0,.v 44 (.int .i64 (x.length:Nat))] ?_
  cases hb17:(decide ((((i+(n/64))+1:Nat):Int)<((x.length:Nat):Int)))
  ·
   have phb17:=oF hb17
   refine lB 45 hb17 ?_
   refine lN (cIF (CG.skipN (CG.listed (lIn 62 ((i:Nat)+1) (i+1) ?_))))
   refine lL hs [.m 25 62] (lD ?_)
   intro a_ ka
   have q18:(i+1)≤x.length-n/64:=by omega
   have q19:((l).set i ((x.getD (i+(n/64)) 0:Nat)/2^(n%64):Nat)).length=x.length-n/64:=hl16
   have q20:Wd ((l).set i ((x.getD (i+(n/64)) 0:Nat)/2^(n%64):Nat)):=(hW.set _ (by have:=Nat.div_le_self (x.getD (i+n/64) 0) (2^(n%64));omega))
   have q21:2^(n%64)*bval 18446744073709551616 ((l).set i ((x.getD (i+(n/64)) 0:Nat)/2^(n%64):Nat))+(x.drop (n/64)).getD 0 0%2^(n%64)=bval 18446744073709551616 ((x.drop (n/64)).take (i+1))+18446744073709551616^(i+1)*((x.drop (n/64)).getD (i+1) 0%2^(n%64)):=(shd_step oM inv (hz _ (Nat.le_refl _)) (by rw[getD_drop',getD_drop',show n/64+i=i+n/64 by omega,getD_out (show x.length≤n/64+(i+1) by omega),Nat.zero_mod,Nat.mul_zero,Nat.add_zero];exact Nat.div_add_mod _ _))
   have q22:∀ k,(i+1)≤k→((l).set i ((x.getD (i+(n/64)) 0:Nat)/2^(n%64):Nat)).getD k 0=0:=zero_set2 oM hz
   refine ⟨_,_,?_,⟨i+1,(l).set i ((x.getD (i+(n/64)) 0:Nat)/2^(n%64):Nat),h7,rfl,rfl,hs.to _ _,q18,q19,q20,q21,q22⟩,ka.to [(0,.slice A x.length c),(4,.slice none 0 0),(5,.int .i64 (n/64:Nat)),(6,.int .u64 (n%64:Nat)),(7,.slice (some ⟨b2,0,none⟩) (x.length-(n/64)) (x.length-(n/64))),(24,.int .i64 ((x.length-(n/64)):Nat)),(25,.int .i64 ((i+1):Nat))] kR⟩
   omega
  have phb17:=oT hb17
  refine lB 45 hb17 ?_
  refine lN (cIT (cR 15 [] mixed hs al_nil ?_))
  refine eV 0 46 (.slice (some ⟨b2,0,none⟩) (x.length-(n/64)) (x.length-(n/64))) ?_
  refine eV 1 47 (.int .i64 (i:Nat)) ?_
  refine eX 2 48 (some ⟨b2,0,none⟩) (x.length-(n/64)) (x.length-(n/64)) 1 (i:Nat) i rfl ?_
  refine eQ 3 49 0 ((l).set i ((x.getD (i+(n/64)) 0:Nat)/2^(n%64):Nat)) u64c 1 0 i (.int .u64 (((l).set i ((x.getD (i+(n/64)) 0:Nat)/2^(n%64):Nat)).getD i 0:Nat)) hs oM ?_
  refine eV 4 50 (.slice A x.length c) ?_
  refine eV 5 51 (.int .i64 (i:Nat)) ?_
  refine eV 6 52 (.int .i64 (n/64:Nat)) ?_
  refine eIn 7 53 ((i:Nat)+(n/64:Nat)) (i+(n/64)) ?_
  refine eIn 8 54 ((i+(n/64):Nat)+1) ((i+(n/64))+1) ?_
  refine eX 9 55 A x.length c 1 ((i+(n/64))+1:Nat) ((i+(n/64))+1:Nat) ((hs.f.1).ok oM) ?_
  refine eH 10 56 (.int .u64 (x.getD ((i+(n/64))+1:Nat) 0:Nat)) hs ((hs.f.1).el ((i+(n/64))+1:Nat) oM) ?_
  refine eV 11 57 (.int .u64 (n%64:Nat)) ?_
  refine eV 12 58 (.int .u64 (64-(n%64):Nat)) ?_ (hv:=fun _=>rint (n:=IntKind.wrap .u64 ((64:Int)-((n%64:Nat):Int))) kR (fSU64 64 (n%64) oM oM))
  refine eV 13 59 (.int .u64 ((x.getD ((i+(n/64))+1:Nat) 0:Nat)*2^(64-(n%64))%18446744073709551616:Nat)) ?_ (hv:=fun _=>opShlN (t:=50) (u:=160) (x:=.tmp 56) (y:=.tmp 58) (ky:=.u64) (a:=(x.getD ((i+(n/64))+1:Nat) 0:Nat)) (n:=(64-(n%64))) kR kR kR _)
  obtain ⟨hS1,hS2,hS3⟩:=shr_word (x:=x.getD (i+n/64) 0) (y:=x.getD (i+n/64+1) 0) (p:=n%64) oM hxi
  have hdv:=Nat.div_le_self (x.getD (i+n/64) 0) (2^(n%64))
  have hgs:=getD_set' (l:=l) (k:=i) (j:=i) (x:=x.getD (i+n/64) 0/2^(n%64)) oM
  rw[if_pos rfl] at hgs
  refine eV 14 60 (.int .u64 (x.getD (i+n/64) 0/2^(n%64)+x.getD (i+n/64+1) 0*2^(64-n%64)%18446744073709551616:Nat)) ?_ (hv:=fun _=>rint (opOr (t:=50) (u:=50) (x:=.tmp 49) (y:=.tmp 59) (a:=(((l).set i ((x.getD (i+(n/64)) 0:Nat)/2^(n%64):Nat)).getD i 0:Nat)) (b:=((x.getD ((i+(n/64))+1:Nat) 0:Nat)*2^(64-(n%64))%18446744073709551616:Nat)) kR kR kR oM oM _) (by rw[hgs,hS1]))
  refine eD0 hs (fun w23 h24 hs=>?_)
  refine tX 15 61 (some ⟨b2,0,none⟩) (x.length-(n/64)) (x.length-(n/64)) 1 (i:Nat) i rfl ?_
  refine tW 16 0 ((l).set i ((x.getD (i+(n/64)) 0:Nat)/2^(n%64):Nat)) u64c 1 i (x.getD (i+n/64) 0/2^(n%64)+x.getD (i+n/64+1) 0*2^(64-n%64)%18446744073709551616) hs oM (fun w25 hs=>?_)
  have hl26:(((l).set i ((x.getD (i+(n/64)) 0:Nat)/2^(n%64):Nat)).set i (x.getD (i+n/64) 0/2^(n%64)+x.getD (i+n/64+1) 0*2^(64-n%64)%18446744073709551616)).length=(x.length-(n/64)):=by rw[List.length_set];exact hl16
  replace hs:=hs.to [⟨b2,50,(((l).set i ((x.getD (i+(n/64)) 0:Nat)/2^(n%64):Nat)).set i (x.getD (i+n/64) 0/2^(n%64)+x.getD (i+n/64+1) 0*2^(64-n%64)%18446744073709551616)).flatMap u64c⟩] []
  refine tN (cTo [(0,.slice A x.length c),(4,.slice none 0 0),(5,.int .i64 (n/64:Nat)),(6,.int .u64 (n%64:Nat)),(7,.slice (some ⟨b2,0,none⟩) (x.length-(n/64)) (x.length-(n/64))),(24,.int .i64 ((x.length-(n/64)):Nat)),(25,.int .i64 (i:Nat))] ?_)
  refine CG.listed (lIn 62 ((i:Nat)+1) (i+1) ?_)
  refine lL hs [.m 25 62] (lD ?_)
  intro a_ ka
  have q27:(i+1)≤x.length-n/64:=by omega
  have q28:(((l).set i ((x.getD (i+(n/64)) 0:Nat)/2^(n%64):Nat)).set i (x.getD (i+n/64) 0/2^(n%64)+x.getD (i+n/64+1) 0*2^(64-n%64)%18446744073709551616)).length=x.length-n/64:=hl26
  have q29:Wd (((l).set i ((x.getD (i+(n/64)) 0:Nat)/2^(n%64):Nat)).set i (x.getD (i+n/64) 0/2^(n%64)+x.getD (i+n/64+1) 0*2^(64-n%64)%18446744073709551616)):=((hW.set _ oM).set _ hS2)
  have q30:2^(n%64)*bval 18446744073709551616 (((l).set i ((x.getD (i+(n/64)) 0:Nat)/2^(n%64):Nat)).set i (x.getD (i+n/64) 0/2^(n%64)+x.getD (i+n/64+1) 0*2^(64-n%64)%18446744073709551616))+(x.drop (n/64)).getD 0 0%2^(n%64)=bval 18446744073709551616 ((x.drop (n/64)).take (i+1))+18446744073709551616^(i+1)*((x.drop (n/64)).getD (i+1) 0%2^(n%64)):=(by rw[List.set_set];exact shd_step oM inv (hz _ (Nat.le_refl _)) (by rw[getD_drop',getD_drop',show n/64+i=i+n/64 by omega,show n/64+(i+1)=i+n/64+1 by omega];exact hS3))
  have q31:∀ k,(i+1)≤k→(((l).set i ((x.getD (i+(n/64)) 0:Nat)/2^(n%64):Nat)).set i (x.getD (i+n/64) 0/2^(n%64)+x.getD (i+n/64+1) 0*2^(64-n%64)%18446744073709551616)).getD k 0=0:=(by rw[List.set_set];exact zero_set2 oM hz)
  refine ⟨_,_,?_,⟨i+1,((l).set i ((x.getD (i+(n/64)) 0:Nat)/2^(n%64):Nat)).set i (x.getD (i+n/64) 0/2^(n%64)+x.getD (i+n/64+1) 0*2^(64-n%64)%18446744073709551616),h24,rfl,rfl,hs.to _ _,q27,q28,q29,q30,q31⟩,ka.to [(0,.slice A x.length c),(4,.slice none 0 0),(5,.int .i64 (n/64:Nat)),(6,.int .u64 (n%64:Nat)),(7,.slice (some ⟨b2,0,none⟩) (x.length-(n/64)) (x.length-(n/64))),(24,.int .i64 ((x.length-(n/64)):Nat)),(25,.int .i64 ((i+1):Nat))] kR⟩
  omega
 have phb1:=oT hb1
 refine lB 17 hb1 ?_
 exact lN (cIT (cSL (lL hs [.v 4 (.slice none 0 0)] (lN (CG.ret (hs.ret [] (.slice none 0 0) (⟨none,0,[],rfl,by simp,by simp;omega,Dg.nil,(by show 0=_;exact (Nat.div_eq_of_lt (shd_big hx oM)).symm),SlO.nil⟩)))))))
theorem mulB {a b:Nat}(ha:a<18446744073709551616)(hb:b<18446744073709551616):a*b≤340282366920938463426481119284349108225:=by
  have h1:a≤18446744073709551615:=by omega
  have h2:b≤18446744073709551615:=by omega
  exact Nat.mul_le_mul h1 h2
def w3 (u2 u1 u0:Nat):Nat:=18446744073709551616*(18446744073709551616*u2+u1)+u0
def w2 (v1 v0:Nat):Nat:=18446744073709551616*v1+v0
structure Gss (u2 u1 u0 v1 v0 g r o:Nat):Prop where
  e:g*v1+(r+18446744073709551616*o)=18446744073709551616*u2+u1
  lt:g+1=18446744073709551616∨w3 u2 u1 u0<(g+1)*w2 v1 v0
  gb:g<18446744073709551616
def GssR (u2 u1 u0 v1 v0 g:Nat):Prop:=g*w2 v1 v0≤w3 u2 u1 u0∧(g+1=18446744073709551616∨w3 u2 u1 u0<(g+1)*w2 v1 v0)∧g<18446744073709551616
theorem gv {g v1 v0:Nat}:g*w2 v1 v0=18446744073709551616*(g*v1)+g*v0:=by unfold w2;rw[Nat.mul_add,Nat.mul_left_comm]
theorem Gss.fin {u2 u1 u0 v1 v0 g r o:Nat}(h:Gss u2 u1 u0 v1 v0 g r o)(ht:g*v0≤18446744073709551616*(r+18446744073709551616*o)+u0):GssR u2 u1 u0 v1 v0 g:=by
  refine ⟨?_,h.lt,h.gb⟩
  rw[gv]
  unfold w3
  rw[←h.e,Nat.mul_add]
  omega
theorem Gss.over {u2 u1 u0 v1 v0 g r o:Nat}(h:Gss u2 u1 u0 v1 v0 g r o)(ho:0<o)(h0:v0<18446744073709551616):GssR u2 u1 u0 v1 v0 g:=by
  refine h.fin ?_
  have h1:=mulB h.gb h0
  omega
theorem Gss.dec {u2 u1 u0 v1 v0 g r r' o':Nat}(h:Gss u2 u1 u0 v1 v0 g r 0)(ht:18446744073709551616*r+u0<g*v0)(e:r'+18446744073709551616*o'=r+v1):0<g∧Gss u2 u1 u0 v1 v0 (g-1) r' o':=by
  have hg:0<g:=pos_of_mul ht
  obtain ⟨p,rfl⟩:∃ p,g=p+1:=⟨g-1,by omega⟩
  have e1:=h.e
  rw[Nat.mul_zero,Nat.add_zero] at e1
  have h1:w3 u2 u1 u0<(p+1)*w2 v1 v0:=by
    rw[gv]
    unfold w3
    rw[←e1,Nat.mul_add]
    omega
  have e2:(p+1)*v1=p*v1+v1:=by rw[Nat.add_mul,Nat.one_mul]
  rw[Nat.add_sub_cancel]
  exact ⟨hg,⟨by omega,Or.inr h1,by have:=h.gb;omega⟩⟩
theorem gss_max {u2 u1 u0 v1 v0 r o:Nat}(h:u2=v1)(e:r+18446744073709551616*o=u1+v1):Gss u2 u1 u0 v1 v0 18446744073709551615 r o:=by
  subst h
  exact ⟨by omega,.inl rfl,by decide⟩
theorem gss_div {u2 u1 u0 v1 v0 q r:Nat}(e:u2*18446744073709551616+u1=v1*q+r)(hr:r<v1)(h0:u0<18446744073709551616)(hq:q<18446744073709551616):Gss u2 u1 u0 v1 v0 q r 0:=by
  rw[Nat.mul_comm u2] at e
  refine ⟨by rw[Nat.mul_comm q];omega,.inr ?_,hq⟩
  rw[gv,Nat.add_mul q 1 v1,Nat.one_mul,Nat.mul_comm q v1]
  unfold w3
  rw[e]
  have h1:18446744073709551616*(v1*q+r)+18446744073709551616≤18446744073709551616*(v1*q+v1):=by
    rw[←Nat.mul_succ]
    exact Nat.mul_le_mul_left _ oM
  have h2:0≤(q+1)*v0:=Nat.zero_le _
  omega
theorem nGuess (u2 u1 u0 v1 v0:Nat)(h0:u2<18446744073709551616)(h1:u1<18446744073709551616)(h2:u0<18446744073709551616)(h3:v1<18446744073709551616)(h4:v0<18446744073709551616)(hle:u2≤v1)(hv:0<v1)(w:World)(h:Hp)(g:G w h) :
    Calls Tryz.prog 153 #[.int .u64 (u2:Nat),.int .u64 (u1:Nat),.int .u64 (u0:Nat),.int .u64 (v1:Nat),.int .u64 (v0:Nat)] w (Ret w h fun v _=>∃ g:Nat,v=.int .u64 (g:Nat)∧GssR u2 u1 u0 v1 v0 g):=by
 have hs:=SS.start g
 refine go Tryz.func153 [(0,.int .u64 (u2:Nat)),(1,.int .u64 (u1:Nat)),(2,.int .u64 (u0:Nat)),(3,.int .u64 (v1:Nat)),(4,.int .u64 (v0:Nat))] rfl ?_
 refine cSL (lL hs [.v 10 (.int .u64 0)] (lNS (lL hs [.v 11 (.int .u64 0),.v 12 (.int .u64 0),.v 13 (.int .u64 0)] (lN (CG.seq (cSL (lL hs [.m 16 0,.m 17 3] ?_)))))))
 cases hb1:(((u2:Nat):Int) == ((v1:Nat):Int))
 ·
  have phb1:=neOfBeq hb1
  refine lB 18 hb1 ?_
  refine lN (cIF (CG.listed (lL hs [.m 26 0,.m 27 1,.m 28 3] (lC 29 hs (bDiv64 u2 u1 v1 oM wM wM _ _ hs.g) ?_))))
  rintro _ w7 h8 hs ⟨q2,r3,rfl,he4,hl5,hm6⟩
  refine lL hs [.m 25 29,.v 30 (.int .u64 (q2:Nat)),.v 31 (.int .u64 (r3:Nat)),.m 11 30,.m 12 31] (lN (CG.seq (CG.block (cTo [(2,.int .u64 (u0:Nat)),(3,.int .u64 (v1:Nat)),(4,.int .u64 (v0:Nat)),(10,.int .u64 0),(11,.int .u64 (q2:Nat)),(12,.int .u64 (r3:Nat)),(13,.int .u64 0)] ?_))))
  refine CG.loop (fun μ_ Γ w_=>∃ (g:Nat) (r:Nat) (ov:Nat) (h_:Hp),μ_=g∧Γ=[(2,.int .u64 (u0:Nat)),(3,.int .u64 (v1:Nat)),(4,.int .u64 (v0:Nat)),(10,.int .u64 0),(11,.int .u64 (g:Nat)),(12,.int .u64 (r:Nat)),(13,.int .u64 (ov:Nat))]∧SS w h w_ h_ [] [] []∧(Gss u2 u1 u0 v1 v0 g r ov)∧(r<18446744073709551616)∧(ov≤1)) _ ⟨q2,r3,0,h8,rfl,rfl,hs.to _ _,gss_div oM oM h2 oM,oM,oM⟩ ?_
  rintro _ _ w9 ⟨g,r,ov,h10,hm11,rfl,hs,hG,hr,hov⟩
  have hgl:=hG.gb
  refine CG.seq (cSL (lL hs [.m 32 13] ?_))
  cases hb12:(((ov:Nat):Int) == (0:Int))
  ·
   have phb12:=neOfBeq hb12
   refine lB 33 hb12 ?_
   refine lN (cIF (CG.exit ?_))
   show CG _ _ _ _ _ _ _ _
   exact cSL (lL hs [.m 61 11,.m 10 61] (lN (CG.ret (hs.ret [] (.int .u64 (g:Nat)) (⟨g,rfl,(by first|exact hG.over oM h4|(rw[show ov=0 by omega] at hG;exact hG.fin oM))⟩)))))
  have phb12:=eq_of_beq hb12
  refine lB 33 hb12 ?_
  refine lN (cIT (CG.skipN (CG.block (cSL (lL hs [.m 35 11,.m 36 4] (lC 37 hs (bMul64 g v0 wM wM _ _ hs.g) ?_))))))
  rintro _ w19 h20 hs ⟨s13,c14,rfl,he15,hl16,hm17,hn18⟩
  have hxhe15:=mul64_le (a:=g) (b:=v0) wM wM
  refine lL hs [.m 34 37,.v 38 (.int .u64 (s13:Nat)),.v 39 (.int .u64 (c14:Nat)),.m 14 38,.m 15 39] (lN (CG.seq (cSL (lL hs [.m 40 14,.m 41 12] ?_))))
  cases hb21:(decide (((s13:Nat):Int)<((r:Nat):Int)))
  ·
   have phb21:=oF hb21
   refine lB 42 hb21 ?_
   refine lL hs [.m 43 42,.m 44 14,.m 45 12] ?_
   cases hb22:(((s13:Nat):Int) == ((r:Nat):Int))
   ·
    have phb22:=neOfBeq hb22
    refine lB 46 hb22 ?_
    refine lL hs [.m 47 46] (lG 48 ?_)
    refine lG 49 ?_
    refine lG 50 ?_
    refine lL hs [.v 51 (.bool false),.v 52 (.bool false)] (lN (cIF (CG.skipN (cSL ?_))))
    have hgt:18446744073709551616*r+u0<g*v0:=by omega
    rw[show ov=0 by omega] at hG
    have hg0:=pos_of_mul hgt
    have hgb:=hG.gb
    refine lL hs [.m 53 11] (lV 54 (.int .u64 (g-1:Nat)) ?_ (hr:=rint (n:=IntKind.wrap .u64 (((g:Nat):Int)-(1:Int))) kR (fSU64 g 1 oM oM)))
    refine lL hs [.m 11 54] (lN (CG.listed (lL hs [.m 56 12,.m 57 3] ?_)))
    obtain ⟨s23,c24,he25,hl26,hm27,hr28⟩:=bAdd64 r v1 0 wM wM oM
    refine lV 58 (.tuple #[.int .u64 (s23:Nat),.int .u64 (c24:Nat)]) ?_ (hr:=opExt kR (hr28 _))
    refine lL hs [.m 55 58,.v 59 (.int .u64 (s23:Nat)),.v 60 (.int .u64 (c24:Nat)),.m 12 59,.m 13 60] (lD ?_)
    intro a_ ka
    have q29:Gss u2 u1 u0 v1 v0 (g-1) s23 c24:=(hG.dec hgt oM).2
    have q30:s23<18446744073709551616:=oM
    have q31:c24≤1:=oM
    refine ⟨_,_,?_,⟨g-1,s23,c24,h20,rfl,rfl,hs.to _ _,q29,q30,q31⟩,ka.to [(2,.int .u64 (u0:Nat)),(3,.int .u64 (v1:Nat)),(4,.int .u64 (v0:Nat)),(10,.int .u64 0),(11,.int .u64 ((g-1):Nat)),(12,.int .u64 (s23:Nat)),(13,.int .u64 (c24:Nat))] kR⟩
    omega
   have phb22:=eq_of_beq hb22
   refine lB 46 hb22 ?_
   refine lL hs [.m 47 46,.m 48 15,.m 49 2] ?_
   cases hb32:(decide (((c14:Nat):Int)≤((u0:Nat):Int)))
   ·
    have phb32:=oF hb32
    refine lB 50 hb32 ?_
    refine lL hs [.v 51 (.bool false),.v 52 (.bool false)] (lN (cIF (CG.skipN (cSL ?_))))
    have hgt:18446744073709551616*r+u0<g*v0:=by omega
    rw[show ov=0 by omega] at hG
    have hg0:=pos_of_mul hgt
    have hgb:=hG.gb
    refine lL hs [.m 53 11] (lV 54 (.int .u64 (g-1:Nat)) ?_ (hr:=rint (n:=IntKind.wrap .u64 (((g:Nat):Int)-(1:Int))) kR (fSU64 g 1 oM oM)))
    refine lL hs [.m 11 54] (lN (CG.listed (lL hs [.m 56 12,.m 57 3] ?_)))
    obtain ⟨s33,c34,he35,hl36,hm37,hr38⟩:=bAdd64 r v1 0 wM wM oM
    refine lV 58 (.tuple #[.int .u64 (s33:Nat),.int .u64 (c34:Nat)]) ?_ (hr:=opExt kR (hr38 _))
    refine lL hs [.m 55 58,.v 59 (.int .u64 (s33:Nat)),.v 60 (.int .u64 (c34:Nat)),.m 12 59,.m 13 60] (lD ?_)
    intro a_ ka
    have q39:Gss u2 u1 u0 v1 v0 (g-1) s33 c34:=(hG.dec hgt oM).2
    have q40:s33<18446744073709551616:=oM
    have q41:c34≤1:=oM
    refine ⟨_,_,?_,⟨g-1,s33,c34,h20,rfl,rfl,hs.to _ _,q39,q40,q41⟩,ka.to [(2,.int .u64 (u0:Nat)),(3,.int .u64 (v1:Nat)),(4,.int .u64 (v0:Nat)),(10,.int .u64 0),(11,.int .u64 ((g-1):Nat)),(12,.int .u64 (s33:Nat)),(13,.int .u64 (c34:Nat))] kR⟩
    omega
   have phb32:=oT hb32
   refine lB 50 hb32 ?_
   refine lL hs [.v 51 (.bool true),.v 52 (.bool true)] (lN (cIT (CG.exit ?_)))
   show CG _ _ _ _ _ _ _ _
   exact cSL (lL hs [.m 61 11,.m 10 61] (lN (CG.ret (hs.ret [] (.int .u64 (g:Nat)) (⟨g,rfl,(by first|exact hG.over oM h4|(rw[show ov=0 by omega] at hG;exact hG.fin oM))⟩)))))
  have phb21:=oT hb21
  refine lB 42 hb21 ?_
  refine lL hs [.m 43 42] (lG 44 ?_)
  refine lG 45 ?_
  refine lG 46 ?_
  refine lG 47 ?_
  refine lG 48 ?_
  refine lG 49 ?_
  refine lG 50 ?_
  refine lG 51 ?_
  refine lL hs [.v 52 (.bool true)] (lN (cIT (CG.exit ?_)))
  show CG _ _ _ _ _ _ _ _
  exact cSL (lL hs [.m 61 11,.m 10 61] (lN (CG.ret (hs.ret [] (.int .u64 (g:Nat)) (⟨g,rfl,(by first|exact hG.over oM h4|(rw[show ov=0 by omega] at hG;exact hG.fin oM))⟩)))))
 have phb1:=eq_of_beq hb1
 refine lB 18 hb1 ?_
 refine lN (cIT (cSL (lL hs [.v 11 (.int .u64 18446744073709551615)] (lN (CG.listed (lL hs [.m 20 1,.m 21 3] ?_))))))
 obtain ⟨s42,c43,he44,hl45,hm46,hr47⟩:=bAdd64 u1 v1 0 wM wM oM
 refine lV 22 (.tuple #[.int .u64 (s42:Nat),.int .u64 (c43:Nat)]) ?_ (hr:=opExt kR (hr47 _))
 refine lL hs [.m 19 22,.v 23 (.int .u64 (s42:Nat)),.v 24 (.int .u64 (c43:Nat)),.m 12 23,.m 13 24] (lN (CG.seq (CG.block (cTo [(2,.int .u64 (u0:Nat)),(3,.int .u64 (v1:Nat)),(4,.int .u64 (v0:Nat)),(10,.int .u64 0),(11,.int .u64 18446744073709551615),(12,.int .u64 (s42:Nat)),(13,.int .u64 (c43:Nat))] ?_))))
 refine CG.loop (fun μ_ Γ w_=>∃ (g:Nat) (r:Nat) (ov:Nat) (h_:Hp),μ_=g∧Γ=[(2,.int .u64 (u0:Nat)),(3,.int .u64 (v1:Nat)),(4,.int .u64 (v0:Nat)),(10,.int .u64 0),(11,.int .u64 (g:Nat)),(12,.int .u64 (r:Nat)),(13,.int .u64 (ov:Nat))]∧SS w h w_ h_ [] [] []∧(Gss u2 u1 u0 v1 v0 g r ov)∧(r<18446744073709551616)∧(ov≤1)) _ ⟨18446744073709551615,s42,c43,h,rfl,rfl,hs.to _ _,gss_max oM oM,oM,oM⟩ ?_
 rintro _ _ w48 ⟨g,r,ov,h49,hm50,rfl,hs,hG,hr,hov⟩
 have hgl:=hG.gb
 refine CG.seq (cSL (lL hs [.m 32 13] ?_))
 cases hb51:(((ov:Nat):Int) == (0:Int))
 ·
  have phb51:=neOfBeq hb51
  refine lB 33 hb51 ?_
  refine lN (cIF (CG.exit ?_))
  show CG _ _ _ _ _ _ _ _
  exact cSL (lL hs [.m 61 11,.m 10 61] (lN (CG.ret (hs.ret [] (.int .u64 (g:Nat)) (⟨g,rfl,(by first|exact hG.over oM h4|(rw[show ov=0 by omega] at hG;exact hG.fin oM))⟩)))))
 have phb51:=eq_of_beq hb51
 refine lB 33 hb51 ?_
 refine lN (cIT (CG.skipN (CG.block (cSL (lL hs [.m 35 11,.m 36 4] (lC 37 hs (bMul64 g v0 wM wM _ _ hs.g) ?_))))))
 rintro _ w58 h59 hs ⟨s52,c53,rfl,he54,hl55,hm56,hn57⟩
 have hxhe54:=mul64_le (a:=g) (b:=v0) wM wM
 refine lL hs [.m 34 37,.v 38 (.int .u64 (s52:Nat)),.v 39 (.int .u64 (c53:Nat)),.m 14 38,.m 15 39] (lN (CG.seq (cSL (lL hs [.m 40 14,.m 41 12] ?_))))
 cases hb60:(decide (((s52:Nat):Int)<((r:Nat):Int)))
 ·
  have phb60:=oF hb60
  refine lB 42 hb60 ?_
  refine lL hs [.m 43 42,.m 44 14,.m 45 12] ?_
  cases hb61:(((s52:Nat):Int) == ((r:Nat):Int))
  ·
   have phb61:=neOfBeq hb61
   refine lB 46 hb61 ?_
   refine lL hs [.m 47 46] (lG 48 ?_)
   refine lG 49 ?_
   refine lG 50 ?_
   refine lL hs [.v 51 (.bool false),.v 52 (.bool false)] (lN (cIF (CG.skipN (cSL ?_))))
   have hgt:18446744073709551616*r+u0<g*v0:=by omega
   rw[show ov=0 by omega] at hG
   have hg0:=pos_of_mul hgt
   have hgb:=hG.gb
   refine lL hs [.m 53 11] (lV 54 (.int .u64 (g-1:Nat)) ?_ (hr:=rint (n:=IntKind.wrap .u64 (((g:Nat):Int)-(1:Int))) kR (fSU64 g 1 oM oM)))
   refine lL hs [.m 11 54] (lN (CG.listed (lL hs [.m 56 12,.m 57 3] ?_)))
   obtain ⟨s62,c63,he64,hl65,hm66,hr67⟩:=bAdd64 r v1 0 wM wM oM
   refine lV 58 (.tuple #[.int .u64 (s62:Nat),.int .u64 (c63:Nat)]) ?_ (hr:=opExt kR (hr67 _))
   refine lL hs [.m 55 58,.v 59 (.int .u64 (s62:Nat)),.v 60 (.int .u64 (c63:Nat)),.m 12 59,.m 13 60] (lD ?_)
   intro a_ ka
   have q68:Gss u2 u1 u0 v1 v0 (g-1) s62 c63:=(hG.dec hgt oM).2
   have q69:s62<18446744073709551616:=oM
   have q70:c63≤1:=oM
   refine ⟨_,_,?_,⟨g-1,s62,c63,h59,rfl,rfl,hs.to _ _,q68,q69,q70⟩,ka.to [(2,.int .u64 (u0:Nat)),(3,.int .u64 (v1:Nat)),(4,.int .u64 (v0:Nat)),(10,.int .u64 0),(11,.int .u64 ((g-1):Nat)),(12,.int .u64 (s62:Nat)),(13,.int .u64 (c63:Nat))] kR⟩
   omega
  have phb61:=eq_of_beq hb61
  refine lB 46 hb61 ?_
  refine lL hs [.m 47 46,.m 48 15,.m 49 2] ?_
  cases hb71:(decide (((c53:Nat):Int)≤((u0:Nat):Int)))
  ·
   have phb71:=oF hb71
   refine lB 50 hb71 ?_
   refine lL hs [.v 51 (.bool false),.v 52 (.bool false)] (lN (cIF (CG.skipN (cSL ?_))))
   have hgt:18446744073709551616*r+u0<g*v0:=by omega
   rw[show ov=0 by omega] at hG
   have hg0:=pos_of_mul hgt
   have hgb:=hG.gb
   refine lL hs [.m 53 11] (lV 54 (.int .u64 (g-1:Nat)) ?_ (hr:=rint (n:=IntKind.wrap .u64 (((g:Nat):Int)-(1:Int))) kR (fSU64 g 1 oM oM)))
   refine lL hs [.m 11 54] (lN (CG.listed (lL hs [.m 56 12,.m 57 3] ?_)))
   obtain ⟨s72,c73,he74,hl75,hm76,hr77⟩:=bAdd64 r v1 0 wM wM oM
   refine lV 58 (.tuple #[.int .u64 (s72:Nat),.int .u64 (c73:Nat)]) ?_ (hr:=opExt kR (hr77 _))
   refine lL hs [.m 55 58,.v 59 (.int .u64 (s72:Nat)),.v 60 (.int .u64 (c73:Nat)),.m 12 59,.m 13 60] (lD ?_)
   intro a_ ka
   have q78:Gss u2 u1 u0 v1 v0 (g-1) s72 c73:=(hG.dec hgt oM).2
   have q79:s72<18446744073709551616:=oM
   have q80:c73≤1:=oM
   refine ⟨_,_,?_,⟨g-1,s72,c73,h59,rfl,rfl,hs.to _ _,q78,q79,q80⟩,ka.to [(2,.int .u64 (u0:Nat)),(3,.int .u64 (v1:Nat)),(4,.int .u64 (v0:Nat)),(10,.int .u64 0),(11,.int .u64 ((g-1):Nat)),(12,.int .u64 (s72:Nat)),(13,.int .u64 (c73:Nat))] kR⟩
   omega
  have phb71:=oT hb71
  refine lB 50 hb71 ?_
  refine lL hs [.v 51 (.bool true),.v 52 (.bool true)] (lN (cIT (CG.exit ?_)))
  show CG _ _ _ _ _ _ _ _
  exact cSL (lL hs [.m 61 11,.m 10 61] (lN (CG.ret (hs.ret [] (.int .u64 (g:Nat)) (⟨g,rfl,(by first|exact hG.over oM h4|(rw[show ov=0 by omega] at hG;exact hG.fin oM))⟩)))))
 have phb60:=oT hb60
 refine lB 42 hb60 ?_
 refine lL hs [.m 43 42] (lG 44 ?_)
 refine lG 45 ?_
 refine lG 46 ?_
 refine lG 47 ?_
 refine lG 48 ?_
 refine lG 49 ?_
 refine lG 50 ?_
 refine lG 51 ?_
 refine lL hs [.v 52 (.bool true)] (lN (cIT (CG.exit ?_)))
 show CG _ _ _ _ _ _ _ _
 exact cSL (lL hs [.m 61 11,.m 10 61] (lN (CG.ret (hs.ret [] (.int .u64 (g:Nat)) (⟨g,rfl,(by first|exact hG.over oM h4|(rw[show ov=0 by omega] at hG;exact hG.fin oM))⟩)))))
theorem nTrimL (A:Option Addr)(c:Nat)(l:List Nat)(n:Nat)(hn:l.length=n)(hl:l.length≤1099511627776)(hc:l.length≤c)(w:World)(h:Hp)(g:G w h)(hA:SlO 1 u64c 0 h A l):Calls Tryz.prog 138 #[.slice A n c] w (Ret w h fun v _=>v=.slice A (tl l n) c):=by
  subst hn;exact nTrim A c l hl hc w h g hA
theorem nDivW (rb:Nat)(l:List Nat)(c d:Nat)(hd:0<d)(hdB:d<18446744073709551616)(hW:Wd l)(hl:l.length≤1000000000)(hc:l.length≤c)(w:World)(h:Hp)(g:G w h)(ho:Own w rb 50 (l.flatMap u64c))(hj:h[rb]?=some junk) :
    Calls Tryz.prog 129 #[.slice (some ⟨rb,0,none⟩) l.length c,.int .u64 (d:Nat)] w (RetM rb w h fun v w' _=>∃ z:List Nat,∃ r:Nat,v=.tuple #[.slice (some ⟨rb,0,none⟩) (tl z z.length) c,.int .u64 r]∧z.length=l.length∧Wd z∧wval l=d*wval z+r∧r<d∧Own w' rb 50 (z.flatMap u64c)):=by
 have hmo:UpM [rb] w h w h:=UpM.refl g
 obtain ⟨wz,hz,hs⟩:=SS.at_ g ho hj
 have hll:l.length=l.length:=rfl
 refine go Tryz.func129 [(0,.slice (some ⟨rb,0,none⟩) l.length c),(1,.int .u64 (d:Nat))] rfl ?_
 refine cSL (lL hs [.v 4 (.slice none 0 0),.v 5 (.int .u64 0)] (lNS (lL hs [.v 6 (.int .u64 0)] (lN (CG.seq (cSL (lL hs [.m 8 0,.v 9 (.int .i64 (l.length:Nat))] (lV 10 (.int .i64 (((l.length:Nat):Int)-1)) ?_ (hr:=rint (n:=IntKind.wrap .i64 ((l.length:Nat)-1)) kR ((wr64 oM oM).trans oM))))))))))
 refine lL hs [.m 7 10] (lN (CG.block (cTo [(0,.slice (some ⟨rb,0,none⟩) l.length c),(1,.int .u64 (d:Nat)),(4,.slice none 0 0),(5,.int .u64 0),(7,.int .i64 (((l.length:Nat):Int)-1)),(6,.int .u64 0)] ?_)))
 refine CG.loop (fun μ_ Γ w_=>∃ (m:Nat) (z:List Nat) (r:Nat) (h_:Hp),μ_=m∧Γ=[(0,.slice (some ⟨rb,0,none⟩) l.length c),(1,.int .u64 (d:Nat)),(4,.slice none 0 0),(5,.int .u64 0),(7,.int .i64 (((m:Nat):Int)-1)),(6,.int .u64 (r:Nat))]∧SS wz hz w_ h_ [⟨rb,50,(z).flatMap u64c⟩] [] []∧(m≤l.length)∧(z.length=l.length)∧(Wd z)∧(wval l=d*(18446744073709551616^m*bval 18446744073709551616 (z.drop m))+(18446744073709551616^m*r+bval 18446744073709551616 (z.take m)))∧(r<d)∧(UpM [rb] w h w_ h_)) _ ⟨l.length,l,0,h,rfl,rfl,hs.to _ _,Nat.le_refl _,rfl,hW,(by show bval _ l=_;simp[bval,List.drop_eq_nil_of_le]),hd,hmo⟩ ?_
 rintro _ _ w1 ⟨m,z,r,h2,hm3,rfl,hs,hm,hzl,hZ,inv,hrd,hmo⟩
 refine CG.seq (cSL (lL hs [.m 11 7] ?_))
 cases hb4:(decide ((0:Int)≤(((m:Nat):Int)-1:Int)))
 ·
  have phb4:=oF hb4
  refine lB 12 hb4 ?_
  refine lN (cIF (CG.exit ?_))
  show CG _ _ _ _ _ _ _ _
  refine cSL (lL hs [.m 28 0] (lClu 29 0 hs (fun _ g_ f_ sg_=>nTrimL (some ⟨rb,0,none⟩) c (z) (l.length) hzl oM oM _ _ g_ (SlO.of_flat (sz:=1) (f:=u64c) (d:=0) (b:=rb) (o:=0) (l:=z) (fun _=>rfl) sg_)) ?_))
  rintro _ w5 h6 u7 hs rfl
  replace hmo:=hmo.trans (u7.m _)
  refine lL hs [.m 30 6,.m 4 29,.m 5 30] (lN (CG.ret ?_))
  have hm0:m=0:=by omega
  rw[hm0] at inv
  exact hs.retM hmo [] (.tuple #[.slice (some ⟨rb,0,none⟩) (tl (z) l.length) c,.int .u64 (r:Nat)]) ⟨z,r,by rw[hzl],hzl,hZ,(by simp only[Nat.pow_zero,Nat.one_mul,List.drop_zero,List.take_zero,bval] at inv;exact inv),hrd,hs.own 0⟩
 have phb4:=oT hb4
 refine lB 12 hb4 ?_
 refine lN (cIT (CG.skipN (CG.seq (CG.block (CG.listed (lL hs [.m 16 0,.m 17 7,.m 18 6,.m 19 0,.m 20 7] (lX 21 (some ⟨rb,0,none⟩) l.length c 1 (((m:Nat):Int)-1) (m-1) rfl ?_)))))))
 have hzg:=hZ.get (m-1)
 refine lQ 22 0 z u64c 1 0 (m-1) (.int .u64 ((z).getD (m-1) 0:Nat)) hs oM ?_
 refine lL hs [.m 23 1] (lCu 24 (bDiv64 r ((z).getD (m-1) 0) d oM wM wM _ _ hs.g) ?_)
 rintro _ w13 h14 u15 ⟨q8,r9,rfl,he10,hl11,hm12⟩
 replace hmo:=hmo.trans (u15.m _)
 replace hs:=hs.step u15
 refine lL hs [.m 15 24,.v 25 (.int .u64 (q8:Nat)),.v 26 (.int .u64 (r9:Nat))] (lX 27 (some ⟨rb,0,none⟩) l.length c 1 (((m:Nat):Int)-1) (m-1) rfl ?_)
 refine lWu 0 z u64c 1 (m-1) q8 hs oM (fun w16 pu hs=>?_)
 replace hmo:=hmo.put pu (List.mem_singleton.2 rfl) hs.g
 have hl17:((z).set (m-1) q8).length=l.length:=by rw[List.length_set];exact hzl
 replace hs:=hs.to [⟨rb,50,((z).set (m-1) q8).flatMap u64c⟩] []
 refine lL hs [.m 6 26] (lN (CG.listed (lL hs [.m 13 7] (lV 14 (.int .i64 (((m-1:Nat):Int)-1)) ?_ (hr:=rint (n:=IntKind.wrap .i64 ((((m:Nat):Int)-1)-1)) kR ((wr64 oM oM).trans oM))))))
 refine lL hs [.m 7 14] (lD ?_)
 intro a_ ka
 have q18:(m-1)≤l.length:=by omega
 have q19:((z).set (m-1) q8).length=l.length:=hl17
 have q20:Wd ((z).set (m-1) q8):=(hZ.set _ oM)
 have q21:wval l=d*(18446744073709551616^(m-1)*bval 18446744073709551616 (((z).set (m-1) q8).drop (m-1)))+(18446744073709551616^(m-1)*r9+bval 18446744073709551616 (((z).set (m-1) q8).take (m-1))):=(dw_step oM (by rw[show m-1+1=m by omega];exact inv) oM)
 have q22:r9<d:=oM
 have q23:UpM [rb] w h w16 h14:=hmo
 refine ⟨_,_,?_,⟨m-1,(z).set (m-1) q8,r9,h14,rfl,rfl,hs.to _ _,q18,q19,q20,q21,q22,q23⟩,ka.to [(0,.slice (some ⟨rb,0,none⟩) l.length c),(1,.int .u64 (d:Nat)),(4,.slice none 0 0),(5,.int .u64 0),(7,.int .i64 ((((m-1):Nat):Int)-1)),(6,.int .u64 (r9:Nat))] kR⟩
 omega
theorem w3_get {u:List Nat}{k:Nat}(hk:2≤k):w3 (u.getD k 0) (u.getD (k-1) 0) (u.getD (k-2) 0)=u.getD k 0*18446744073709551616*18446744073709551616+u.getD (k-1) 0*18446744073709551616+u.getD (k-2) 0:=by
  unfold w3
  rw[Nat.mul_comm (u.getD k 0) 18446744073709551616,Nat.mul_comm (18446744073709551616*u.getD k 0) 18446744073709551616,Nat.mul_comm (u.getD (k-1) 0),Nat.mul_add]
theorem w2_get {v1 v0:Nat}:w2 v1 v0=v1*18446744073709551616+v0:=by unfold w2;rw[Nat.mul_comm]
section
variable {n j G:Nat} {u v:List Nat}
theorem dv_top (hn:2≤n)(hl:v.length=n)(hdv:Wd v)(hdu:Wd u)(hu:j+n<u.length)(hR:wval u<18446744073709551616^(j+1)*wval v):u.getD (j+n) 0≤v.getD (n-1) 0:=by
  rcases Nat.lt_or_ge (v.getD (n-1) 0) (u.getD (j+n) 0) with h|h
  · exfalso
    have e1:=bval_take_succ 18446744073709551616 (l:=v) (k:=n-1) oM
    rw[show n-1+1=v.length by omega,List.take_length] at e1
    have h1:=bval_lt (Dg.take hdv (n-1))
    rw[List.length_take,Nat.min_eq_left oM] at h1
    have e2:=bval_take_succ 18446744073709551616 (l:=u) (k:=j+n) oM
    have e3:=bval_split 18446744073709551616 (l:=u) (k:=j+n+1) oM
    have h2:18446744073709551616^(j+n)*(v.getD (n-1) 0+1)≤18446744073709551616^(j+n)*u.getD (j+n) 0:=Nat.mul_le_mul_left _ h
    have h3:18446744073709551616^(j+1)*wval v<18446744073709551616^(j+1)*(18446744073709551616^(n-1)*(v.getD (n-1) 0+1)):=by
      refine Nat.mul_lt_mul_of_pos_left ?_ (Nat.pow_pos kD)
      show bval _ v<_
      rw[e1,Nat.mul_add,Nat.mul_one];omega
    rw[←Nat.mul_assoc,←Nat.pow_add,show j+1+(n-1)=j+n by omega] at h3
    have h4:wval u=bval 18446744073709551616 (u.take (j+n))+18446744073709551616^(j+n)*u.getD (j+n) 0+18446744073709551616^(j+n+1)*bval 18446744073709551616 (u.drop (j+n+1)):=by
      show bval _ u=_
      rw[e3,e2]
    have h5:=Nat.zero_le (18446744073709551616^(j+n+1)*bval 18446744073709551616 (u.drop (j+n+1)))
    omega
  · exact h
theorem dv_guess (hn:2≤n)(hl:v.length=n)(hdv:Wd v)(hdu:Wd u)(hu:j+n<u.length)(htop:v.getD (n-1) 0≠0)(hR:wval u<18446744073709551616^(j+1)*wval v)(hG:GssR (u.getD (j+n) 0) (u.getD (j+n-1) 0) (u.getD (j+n-2) 0) (v.getD (n-1) 0) (v.getD (n-2) 0) G) :
    wval u/(18446744073709551616^j*wval v)≤G∧G≤wval u/(18446744073709551616^j*wval v)+1:=by
  obtain ⟨h1,h2,h3⟩:=hG
  rw[w3_get oM,w2_get] at h1 h2
  exact div_guess kD hn hl hdv hdu hu htop hR h1 h2 h3
theorem dv_vb (hn:2≤n)(hl:v.length=n)(hdv:Wd v)(htop:v.getD (n-1) 0≠0):18446744073709551616^(n-1)≤wval v∧wval v<18446744073709551616^n:=by
  have h2:=bval_lt hdv
  rw[hl] at h2
  refine ⟨?_,h2⟩
  have e1:=bval_take_succ 18446744073709551616 (l:=v) (k:=n-1) oM
  rw[show n-1+1=v.length by omega,List.take_length] at e1
  have h3:18446744073709551616^(n-1)*1≤18446744073709551616^(n-1)*v.getD (n-1) 0:=Nat.mul_le_mul_left _ oM
  show _≤bval _ v
  omega
theorem dv_Rb (hn:2≤n)(hl:v.length=n)(hdv:Wd v)(hR:wval u<18446744073709551616^(j+1)*wval v):wval u<18446744073709551616^(j+n+1):=by
  have h2:=bval_lt hdv
  rw[hl] at h2
  have h1:18446744073709551616^(j+1)*wval v<18446744073709551616^(j+1)*18446744073709551616^n:=Nat.mul_lt_mul_of_pos_left h2 (Nat.pow_pos kD)
  rw[←Nat.pow_add,show j+1+n=j+n+1 by omega] at h1
  omega
theorem dv_zero {u1:List Nat}(hn:2≤n)(hl:v.length=n)(hdv:Wd v)(hdu:Wd u)(hd1:Wd u1)(hu:j+n<u.length)(htop:v.getD (n-1) 0≠0)(hR:wval u<18446744073709551616^(j+1)*wval v)
    (hG:wval u/(18446744073709551616^j*wval v)≤G∧G≤wval u/(18446744073709551616^j*wval v)+1)(hab:Above u1 u (j+n+1))(e:wval u1+18446744073709551616^j*(G*wval v)=wval u+18446744073709551616^(j+n+1)*0) :
    wval u1<18446744073709551616^j*wval v∧wval u1+18446744073709551616^j*(G*wval v)=wval u:=by
  obtain ⟨v1,v2⟩:=dv_vb hn hl hdv htop
  have hb:=above_lt (b:=18446744073709551616) kD hab hd1 hdu (by rw[hab.1];omega) (dv_Rb hn hl hdv hR)
  have:=(div_digit (b:=18446744073709551616) kD hn v1 v2 hR hb e (Nat.zero_le 1) hG).1 rfl
  rw[Nat.mul_zero,Nat.add_zero] at e
  exact ⟨this.2.2.1,e⟩
theorem dv_ar {U1 U2 W K T c:Nat}(e2:U2+T*c=U1+W)(g2:U1+W=K+T)(hU:U2<T)(hK:K<W)(hW:W≤T):U2=K:=by
  have hc:c=1:=by
    rcases Nat.lt_trichotomy c 1 with h|h|h
    · have:c=0:=by omega
      subst this;omega
    · exact h
    · have h2:T*2≤T*c:=Nat.mul_le_mul_left _ h
      omega
  subst hc
  omega
theorem dv_one {u1 u2:List Nat}{c:Nat}(hn:2≤n)(hl:v.length=n)(hdv:Wd v)(hdu:Wd u)(hd1:Wd u1)(hd2:Wd u2)(hu:j+n<u.length)(htop:v.getD (n-1) 0≠0)(hR:wval u<18446744073709551616^(j+1)*wval v)
    (hG:wval u/(18446744073709551616^j*wval v)≤G∧G≤wval u/(18446744073709551616^j*wval v)+1)(hab:Above u1 u (j+n+1))(hab2:Above u2 u (j+n+1))(e:wval u1+18446744073709551616^j*(G*wval v)=wval u+18446744073709551616^(j+n+1)*1)
    (e2:wval u2+18446744073709551616^(j+n+1)*c=wval u1+18446744073709551616^j*wval v) :
    wval u2<18446744073709551616^j*wval v∧wval u2+18446744073709551616^j*((G-1)*wval v)=wval u∧0<G:=by
  obtain ⟨v1,v2⟩:=dv_vb hn hl hdv htop
  have hRb:=dv_Rb hn hl hdv hR
  have hb:=above_lt (b:=18446744073709551616) kD hab hd1 hdu (by rw[hab.1];omega) hRb
  have hb2:=above_lt (b:=18446744073709551616) kD hab2 hd2 hdu (by rw[hab2.1];omega) hRb
  obtain ⟨g1,g2,g3,g4⟩:=(div_digit (b:=18446744073709551616) kD hn v1 v2 hR hb e oM hG).2 rfl
  have hbig:18446744073709551616^j*wval v≤18446744073709551616^(j+n+1):=by
    have h1:18446744073709551616^j*wval v≤18446744073709551616^j*18446744073709551616^n:=Nat.mul_le_mul_left _ (Nat.le_of_lt v2)
    rw[←Nat.pow_add] at h1
    have h2:(18446744073709551616:Nat)^(j+n)≤18446744073709551616^(j+n+1):=Nat.pow_le_pow_right kD oM
    exact Nat.le_trans h1 h2
  have hk:wval u2=wval u-18446744073709551616^j*((G-1)*wval v):=dv_ar e2 g2 hb2 g3 hbig
  exact ⟨by rw[hk];exact g3,by rw[hk];exact Nat.sub_add_cancel g4,by rw[g1];exact Nat.succ_pos _⟩
theorem dv_pos {u1:List Nat}(hn:2≤n)(hl:v.length=n)(hdv:Wd v)(hdu:Wd u)(hd1:Wd u1)(hu:j+n<u.length)(htop:v.getD (n-1) 0≠0)(hR:wval u<18446744073709551616^(j+1)*wval v)
    (hG:wval u/(18446744073709551616^j*wval v)≤G∧G≤wval u/(18446744073709551616^j*wval v)+1)(hab:Above u1 u (j+n+1))(e:wval u1+18446744073709551616^j*(G*wval v)=wval u+18446744073709551616^(j+n+1)*1):0<G:=by
  obtain ⟨v1,v2⟩:=dv_vb hn hl hdv htop
  have hb:=above_lt (b:=18446744073709551616) kD hab hd1 hdu (by rw[hab.1];omega) (dv_Rb hn hl hdv hR)
  obtain ⟨g1,_⟩:=(div_digit (b:=18446744073709551616) kD hn v1 v2 hR hb e (Nat.le_refl 1) hG).2 rfl
  rw[g1];exact Nat.succ_pos _
theorem dv_rest (hn:n≤u.length)(hl:v.length=n)(hdv:Wd v)(hdu:Wd u)(hR:wval u<wval v):wval (u.take n)=wval u:=by
  have h2:=bval_lt hdv
  rw[hl] at h2
  have h3:bval 18446744073709551616 u<18446744073709551616^(n+0):=Nat.lt_trans hR h2
  have hz:=(bval_top 18446744073709551616 (l:=u) (k:=n) (m:=0) oM kD hdu h3).2
  have e:=bval_split 18446744073709551616 (l:=u) (k:=n) hn
  have h4:bval 18446744073709551616 (u.drop n)=0:=bval_of_zero _ (fun i=>by rw[getD_drop'];exact hz _ oM)
  rw[h4,Nat.mul_zero,Nat.add_zero] at e
  exact e.symm
end
theorem dv_quo {q:List Nat}{j Q X V R R':Nat}(hj:j<q.length)(h0:q.getD j 0=0)(inv:X=wval q*V+R)(e:R'+18446744073709551616^j*(Q*V)=R):X=wval (q.set j Q)*V+R':=by
  have s1:=bval_set 18446744073709551616 (l:=q) (k:=j) Q hj
  rw[h0,Nat.mul_zero,Nat.add_zero] at s1
  have s2:wval (q.set j Q)=wval q+18446744073709551616^j*Q:=s1
  rw[s2,Nat.add_mul,inv,←e,Nat.mul_assoc];omega
theorem dv_end {X V R q a b s:Nat}(hV:V=b*2^s)(hX:X=a*2^s)(inv:X=q*V+R)(hR:R<V):q=a/b∧R/2^s=a%b:=by
  have hp:=Nat.two_pow_pos s
  have hV0:0<V:=by omega
  have hb:0<b:=by
    rcases Nat.eq_zero_or_pos b with h|h
    · rw[h,Nat.zero_mul] at hV;omega
    · exact h
  have e1:a*2^s=V*q+R:=by rw[←hX,inv,Nat.mul_comm]
  obtain ⟨h1,h2⟩:=half_core (A:=a) (y:=b) (Q:=q) hV e1 hR
  have h3:a=R/2^s+b*q:=by omega
  constructor
  · rw[h3,Nat.add_mul_div_left _ _ hb,Nat.div_eq_of_lt h2,Nat.zero_add]
  · rw[h3,Nat.add_mul_mod_self_left,Nat.mod_eq_of_lt h2]
theorem shl_room {a s:Nat}(hs:s≤64)(h:a*2^s<18446744073709551616):a*2^s+2^s≤18446744073709551616:=by
  have e:=pow64 hs
  rw[e] at h ⊢
  have h1:a<2^(64-s):=Nat.lt_of_mul_lt_mul_right h
  have h2:(a+1)*2^s≤2^(64-s)*2^s:=Nat.mul_le_mul_right _ h1
  rw[Nat.add_mul,Nat.one_mul] at h2
  exact h2
theorem dv_start {x y:List Nat}{s:Nat}(hx:Wd x)(hy:Wd y)(hn:1≤y.length)(htop:y.getD (y.length-1) 0≠0)(hxy:y.length≤x.length):wval x*2^s<18446744073709551616^(x.length-y.length+1)*(wval y*2^s):=by
  have e1:=bval_take_succ 18446744073709551616 (l:=y) (k:=y.length-1) oM
  rw[show y.length-1+1=y.length by omega,List.take_length] at e1
  have h3:18446744073709551616^(y.length-1)*1≤18446744073709551616^(y.length-1)*y.getD (y.length-1) 0:=Nat.mul_le_mul_left _ oM
  have h4:18446744073709551616^(y.length-1)≤wval y:=by show _≤bval _ y;omega
  have h5:18446744073709551616^(x.length-y.length+1)*18446744073709551616^(y.length-1)≤18446744073709551616^(x.length-y.length+1)*wval y:=Nat.mul_le_mul_left _ h4
  rw[←Nat.pow_add,show x.length-y.length+1+(y.length-1)=x.length by omega] at h5
  have h6:wval x<18446744073709551616^x.length:=bval_lt hx
  rw[←Nat.mul_assoc]
  exact Nat.mul_lt_mul_of_pos_right (Nat.lt_of_lt_of_le h6 h5) (Nat.two_pow_pos s)
theorem nShDnL (A:Option Addr)(c:Nat)(x:List Nat)(m:Nat)(hm:x.length=m)(hx:Wd x)(hlx:x.length≤1000000000)(n:Nat)(hn:n≤1000000000)(w:World)(h:Hp)(g:G w h)(hA:SlO 1 u64c 0 h A x):Calls Tryz.prog 154 #[.slice A m c,.int .i64 (n:Nat)] w (Ret w h fun v h1=>RowW h1 v (x.length-n/64) (fun z=>wval z=wval x/2^n)):=by
  subst hm;exact nShDn A c x hx hlx n hn w h g hA
theorem dv_shl {y z:List Nat}{s:Nat}(hs64:s≤64)(hy:Wd y)(hz:Wd z)(hV:wval z=wval y*2^s)(hn:1≤y.length)(hs:y.getD (y.length-1) 0*2^s<18446744073709551616)(hlen:y.length≤z.length):wval (z.take y.length)=wval y*2^s:=by
  have hlt:wval z<18446744073709551616^(y.length+0):=by
    rw[hV,Nat.add_zero]
    have e1:=bval_take_succ 18446744073709551616 (l:=y) (k:=y.length-1) oM
    rw[show y.length-1+1=y.length by omega,List.take_length] at e1
    have h1:=bval_lt (Dg.take hy (y.length-1))
    rw[List.length_take,Nat.min_eq_left oM] at h1
    have h2:wval y<18446744073709551616^(y.length-1)*(y.getD (y.length-1) 0+1):=by
      show bval _ y<_
      rw[e1,Nat.mul_add,Nat.mul_one];omega
    have h3:wval y*2^s<18446744073709551616^(y.length-1)*(y.getD (y.length-1) 0+1)*2^s:=Nat.mul_lt_mul_of_pos_right h2 (Nat.two_pow_pos s)
    have h4:18446744073709551616^(y.length-1)*(y.getD (y.length-1) 0+1)*2^s≤18446744073709551616^y.length:=by
      have e5:(18446744073709551616:Nat)^y.length=18446744073709551616^(y.length-1)*18446744073709551616:=by rw[←Nat.pow_succ];congr 1;omega
      rw[e5,Nat.mul_assoc]
      refine Nat.mul_le_mul_left _ ?_
      rw[Nat.add_mul,Nat.one_mul]
      exact shl_room hs64 hs
    exact Nat.lt_of_lt_of_le h3 h4
  have hzz:=(bval_top 18446744073709551616 (l:=z) (k:=y.length) (m:=0) oM kD hz hlt).2
  have e:=bval_split 18446744073709551616 (l:=z) (k:=y.length) oM
  have h4:bval 18446744073709551616 (z.drop y.length)=0:=bval_of_zero _ (fun i=>by rw[getD_drop'];exact hzz _ oM)
  rw[h4,Nat.mul_zero,Nat.add_zero] at e
  rw[←hV];exact e.symm
theorem dv_topn {y v:List Nat}{s:Nat}(hy:Wd y)(hv:Wd v)(hl:v.length=y.length)(hV:wval v=wval y*2^s)(hn:1≤y.length)(hs:9223372036854775808≤y.getD (y.length-1) 0*2^s):v.getD (v.length-1) 0≠0:=by
  intro h0
  have e1:=bval_take_succ 18446744073709551616 (l:=v) (k:=v.length-1) oM
  rw[show v.length-1+1=v.length by omega,List.take_length,h0,Nat.mul_zero,Nat.add_zero] at e1
  have h1:=bval_lt (Dg.take hv (v.length-1))
  rw[List.length_take,Nat.min_eq_left oM] at h1
  have e2:=bval_take_succ 18446744073709551616 (l:=y) (k:=y.length-1) oM
  rw[show y.length-1+1=y.length by omega,List.take_length] at e2
  have h2:18446744073709551616^(y.length-1)*y.getD (y.length-1) 0≤wval y:=by show _≤bval _ y;omega
  have h3:18446744073709551616^(y.length-1)*y.getD (y.length-1) 0*2^s≤wval y*2^s:=Nat.mul_le_mul_right _ h2
  rw[Nat.mul_assoc] at h3
  have h4:18446744073709551616^(y.length-1)*1≤18446744073709551616^(y.length-1)*(y.getD (y.length-1) 0*2^s):=Nat.mul_le_mul_left _ oM
  have h5:wval v<18446744073709551616^(y.length-1):=by
    show bval _ v<_
    rw[e1,←hl];exact h1
  omega
theorem nDivWs (A:Option Addr)(c:Nat)(x:List Nat)(D:Option Addr)(d:Nat)(y:List Nat)(hx:Wd x)(hy:Wd y)(hlx:x.length≤1000000000)(hny:2≤y.length)(hxy:y.length≤x.length)(htop:y.getD (y.length-1) 0≠0)(w:World)(h:Hp)(g:G w h)(hA:SlO 1 u64c 0 h A x)(hD:SlO 1 u64c 0 h D y) :
    Calls Tryz.prog 130 #[.slice A x.length c,.slice D y.length d] w (Ret w h fun v h1=>∃ Aq cq,∃ q:List Nat,∃ Ar cr,∃ r:List Nat,v=.tuple #[.slice Aq q.length cq,.slice Ar r.length cr]∧q.length≤cq∧r.length≤cr∧Wd q∧Wd r∧wval q=wval x/wval y∧wval r=wval x%wval y∧q.length≤x.length∧r.length≤y.length∧SlO 1 u64c 0 h1 Aq q∧SlO 1 u64c 0 h1 Ar r):=by
 have hs:=SS.start g
 replace hs:=((hs.a_SlO hA).a_SlO hD)
 refine go Tryz.func130 [(0,.slice A x.length c),(1,.slice D y.length d)] rfl ?_
 refine cSL (lL hs [.v 4 (.slice none 0 0),.v 5 (.slice none 0 0)] (lNS (lL hs [.m 21 1,.v 22 (.int .i64 (y.length:Nat)),.m 6 22] (lNS (lL hs [.m 23 1,.m 24 6] (lIn 25 ((y.length:Nat)-1) (y.length-1) ?_))))))
 refine lX 26 D y.length d 1 (y.length-1:Nat) (y.length-1) ((hs.f.1).ok oM) ?_
 refine lH 27 (.int .u64 (y.getD (y.length-1) 0:Nat)) hs ((hs.f.1).el (y.length-1) oM) ?_
 have hyt:=hy.get (y.length-1)
 refine lC 28 hs (bLz64 (y.getD (y.length-1) 0) wM _ _ hs.g) ?_
 rintro _ w1 h2 hs rfl
 refine lL hs [.m 7 28] (lNS (lL hs [.m 29 1,.m 30 7] (lC 31 hs (nShUp D d y hy oM (64-nb (y.getD (y.length-1) 0)) oM _ _ hs.g (hs.f.1)) ?_)))
 rintro _ w3 h4 hs ⟨V,vc,zv,rfl,hvc,hvlz,hWv,hVv,hFv⟩
 replace hs:=(hs.a_SlO hFv)
 refine lL hs [.m 32 6] (lT 33 V zv.length vc 1 (y.length:Nat) y.length ?_)
 obtain ⟨vl,hvl_⟩:∃ vl,vl=zv.take y.length:=⟨_,rfl⟩
 have hvlen:vl.length=y.length:=by rw[hvl_,List.length_take];omega
 have hWvl:Wd vl:=by rw[hvl_];exact Dg.take hWv _
 have hnbp:=(nb_spec (n:=y.getD (y.length-1) 0) oM).2.2
 have hnrm:=lz_norm (y:=y.getD (y.length-1) 0) oM (hy.get _)
 have hVvl:wval vl=wval y*2^(64-nb (y.getD (y.length-1) 0)):=by rw[hvl_];exact dv_shl oM hy hWv hVv oM hnrm.2 oM
 have htopv:vl.getD (vl.length-1) 0≠0:=dv_topn hy hWvl hvlen hVvl oM hnrm.1
 replace hs:=hs.a_SlO ((hs.f.1).take y.length)
 rw[←hvl_] at hs
 refine lL hs [.m 8 33] (lNS (lL hs [.m 34 0,.v 35 (.int .i64 (x.length:Nat))] (lIn 36 ((x.length:Nat)+1) (x.length+1) ?_)))
 refine lK 37 50 (x.length+1) 1 8 (.int .u64 0) u64c 0 hs (fun b5 w6 h7 hs=>?_)
 have hl8:(List.replicate (x.length+1) 0).length=(x.length+1):=by simp
 refine lL hs [.m 9 37] (lNS (lL hs [.m 38 9,.m 39 0,.m 40 7] (lC 41 hs (nShUp A c x hx hlx (64-nb (y.getD (y.length-1) 0)) oM _ _ hs.g (hs.f.2.2.2.1)) ?_)))
 rintro _ w9 h10 hs ⟨Uo,uc,zu,rfl,huc,hulz,hWzu,hVu,hFu⟩
 replace hs:=(hs.a_SlO hFu)
 have hlu_:zu.length=x.length+1:=by omega
 refine lCp 42 0 (.tmp 38) (.tmp 41) 154 50 u64c 0 Uo zu (x.length+1) zu.length uc (x.length+1) hs (hs.f.1) rfl oM oM (by show ((List.replicate (x.length+1) 0).flatMap u64c).length=_;rw[len_flat (sz:=1) (fun _=>rfl)];simp) (fun w11 hs=>?_)
 replace hs:=hs.to [⟨b5,50,(zu).flatMap u64c⟩] []
 refine lNS (lL hs [.m 43 0,.v 44 (.int .i64 (x.length:Nat)),.m 45 6] (lIn 46 ((x.length:Nat)-(y.length:Nat)) (x.length-y.length) ?_))
 refine lIn 47 ((x.length-y.length:Nat)+1) ((x.length-y.length)+1) ?_
 refine lK 48 50 ((x.length-y.length)+1) 1 8 (.int .u64 0) u64c 0 hs (fun b12 w13 h14 hs=>?_)
 have hl15:(List.replicate ((x.length-y.length)+1) 0).length=((x.length-y.length)+1):=by simp
 refine lL hs [.m 4 48] (lN (CG.seq (cSL (lL hs [.m 49 0,.v 50 (.int .i64 (x.length:Nat)),.m 51 6] (lV 52 (.int .i64 (((x.length-y.length+1:Nat):Int)-1)) ?_ (hr:=rint (n:=IntKind.wrap .i64 ((x.length:Nat)-(y.length:Nat))) kR ((wr64 oM oM).trans oM)))))))
 refine lL hs [.m 10 52] (lN (cTo [(4,.slice (some ⟨b12,0,none⟩) ((x.length-y.length)+1) ((x.length-y.length)+1)),(5,.slice none 0 0),(6,.int .i64 (y.length:Nat)),(7,.int .i64 (64-nb (y.getD (y.length-1) 0):Nat)),(8,.slice V y.length vc),(9,.slice (some ⟨b5,0,none⟩) (x.length+1) (x.length+1)),(10,.int .i64 (((x.length-y.length+1:Nat):Int)-1))] ?_))
 refine CG.block (cTo [(4,.slice (some ⟨b12,0,none⟩) ((x.length-y.length)+1) ((x.length-y.length)+1)),(5,.slice none 0 0),(6,.int .i64 (y.length:Nat)),(7,.int .i64 (64-nb (y.getD (y.length-1) 0):Nat)),(8,.slice V y.length vc),(9,.slice (some ⟨b5,0,none⟩) (x.length+1) (x.length+1)),(10,.int .i64 (((x.length-y.length+1:Nat):Int)-1))] ?_)
 refine CG.loop (fun μ_ Γ w_=>∃ (m:Nat) (ul:List Nat) (ql:List Nat) (h_:Hp),μ_=m∧Γ=[(4,.slice (some ⟨b12,0,none⟩) ((x.length-y.length)+1) ((x.length-y.length)+1)),(5,.slice none 0 0),(6,.int .i64 (y.length:Nat)),(7,.int .i64 (64-nb (y.getD (y.length-1) 0):Nat)),(8,.slice V y.length vc),(9,.slice (some ⟨b5,0,none⟩) (x.length+1) (x.length+1)),(10,.int .i64 (((m:Nat):Int)-1))]∧SS w h w_ h_ [⟨b12,50,(ql).flatMap u64c⟩,⟨b5,50,(ul).flatMap u64c⟩] [] [fun h_=>SlO 1 u64c 0 h_ Uo zu,fun h_=>SlO 1 u64c 0 h_ V vl,fun h_=>SlO 1 u64c 0 h_ V zv,fun h_=>SlO 1 u64c 0 h_ D y,fun h_=>SlO 1 u64c 0 h_ A x]∧(m≤x.length-y.length+1)∧(ul.length=x.length+1)∧(Wd ul)∧(ql.length=x.length-y.length+1)∧(Wd ql)∧(wval ul<18446744073709551616^m*wval vl)∧(wval zu=wval ql*wval vl+wval ul)∧(∀ k,k<m→ql.getD k 0=0)) _ ⟨x.length-y.length+1,zu,List.replicate ((x.length-y.length)+1) 0,h14,rfl,rfl,hs.to _ _,Nat.le_refl _,hlu_,hWzu,hl15,Wd.rep _,(by rw[hVu,hVvl];exact dv_start hx hy oM htop oM),(by show _=bval _ _*_+_;rw[bval_rep,Nat.zero_mul,Nat.zero_add]),fun k _=>getD_rep⟩ ?_
 rintro _ _ w16 ⟨m,ul,ql,h17,hm18,rfl,hs,hm,hul,hWu,hql,hWq,hR,inv,hq0⟩
 refine CG.seq (cSL (lL hs [.m 53 10] ?_))
 cases hb19:(decide ((0:Int)≤(((m:Nat):Int)-1:Int)))
 ·
  have phb19:=oF hb19
  refine lB 54 hb19 ?_
  refine lN (cIF (CG.exit ?_))
  show CG _ _ _ _ _ _ _ _
  refine cSL ?_
  have hm0:m=0:=by omega
  obtain ⟨h20,hs,sg21,lo22,bc23⟩:=hs.pub 0
  replace hs:=(hs.to [⟨b5,50,(ul).flatMap u64c⟩] []).a_SlO (SlO.of_flat (sz:=1) (f:=u64c) (d:=0) (b:=b12) (o:=0) (l:=ql) (fun _=>rfl) sg21)
  obtain ⟨h25,hs,sg26,lo27,bc28⟩:=hs.pub 0
  replace hs:=(hs.to [] []).a_SlO (SlO.of_flat (sz:=1) (f:=u64c) (d:=0) (b:=b5) (o:=0) (l:=ul) (fun _=>rfl) sg26)
  refine lL hs [.m 187 4,.m 188 9,.m 189 6] (lT 190 (some ⟨b5,0,none⟩) (x.length+1) (x.length+1) 1 (y.length:Nat) y.length ?_)
  refine lL hs [.m 191 7] (lC 192 hs (nShDnL (some ⟨b5,0,none⟩) (x.length+1) (ul.take y.length) y.length (by rw[List.length_take];omega) (Dg.take hWu _) (by rw[List.length_take];omega) (64-nb (y.getD (y.length-1) 0)) oM _ _ hs.g ((hs.f.1).take y.length)) ?_)
  rintro _ w30 h31 hs ⟨Ar,cr,zr,rfl,hcr,hlr,hWr,hVr,hFr⟩
  replace hs:=(hs.a_SlO hFr)
  refine lL hs [.m 4 187,.m 5 192] (lN (CG.ret ?_))
  rw[hm0,Nat.pow_zero,Nat.one_mul] at hR
  obtain ⟨hQ,hRm⟩:=dv_end hVvl hVu inv hR
  rw[dv_rest (v:=vl) oM oM hWvl hWu hR] at hVr
  exact hs.ret [] (.tuple #[.slice (some ⟨b12,0,none⟩) ((x.length-y.length)+1) ((x.length-y.length)+1),.slice Ar zr.length cr]) (⟨_,_,ql,Ar,cr,zr,by rw[hql],by omega,hcr,hWq,hWr,hQ,hVr.trans hRm,by omega,(by have:=List.length_take_le y.length ul;omega),(hs.f.2.2.1),(hs.f.1)⟩)
 have phb19:=oT hb19
 refine lB 54 hb19 ?_
 refine lN (cIT (CG.skipN (CG.seq (CG.block (CG.seq (cR 31 [] mixed hs al_nil ?_))))))
 have hm1:0<m:=by omega
 have hn2:2≤vl.length:=by omega
 have hjn:m-1+vl.length<ul.length:=by omega
 have hR1:wval ul<18446744073709551616^(m-1+1)*wval vl:=by rw[show m-1+1=m by omega];exact hR
 have hle:=dv_top (n:=vl.length) (j:=m-1) hn2 rfl hWvl hWu hjn hR1
 refine eV 0 57 (.slice (some ⟨b5,0,none⟩) (x.length+1) (x.length+1)) ?_
 refine eV 1 58 (.int .i64 (((m:Nat):Int)-1)) ?_
 refine eV 2 59 (.int .i64 (y.length:Nat)) ?_
 refine eIn 3 60 ((((m:Nat):Int)-1)+(y.length:Nat)) (m-1+vl.length) ?_
 refine eX 4 61 (some ⟨b5,0,none⟩) (x.length+1) (x.length+1) 1 (m-1+vl.length:Nat) (m-1+vl.length) rfl ?_
 refine eQ 5 62 1 ul u64c 1 0 (m-1+vl.length) (.int .u64 ((ul).getD (m-1+vl.length) 0:Nat)) hs oM ?_
 refine eV 6 63 (.slice (some ⟨b5,0,none⟩) (x.length+1) (x.length+1)) ?_
 refine eV 7 64 (.int .i64 (((m:Nat):Int)-1)) ?_
 refine eV 8 65 (.int .i64 (y.length:Nat)) ?_
 refine eIn 9 66 ((((m:Nat):Int)-1)+(y.length:Nat)) (m-1+vl.length) ?_
 refine eIn 10 67 ((m-1+vl.length:Nat)-1) (m-1+vl.length-1) ?_
 refine eX 11 68 (some ⟨b5,0,none⟩) (x.length+1) (x.length+1) 1 (m-1+vl.length-1:Nat) (m-1+vl.length-1) rfl ?_
 refine eQ 12 69 1 ul u64c 1 0 (m-1+vl.length-1) (.int .u64 ((ul).getD (m-1+vl.length-1) 0:Nat)) hs oM ?_
 refine eV 13 70 (.slice (some ⟨b5,0,none⟩) (x.length+1) (x.length+1)) ?_
 refine eV 14 71 (.int .i64 (((m:Nat):Int)-1)) ?_
 refine eV 15 72 (.int .i64 (y.length:Nat)) ?_
 refine eIn 16 73 ((((m:Nat):Int)-1)+(y.length:Nat)) (m-1+vl.length) ?_
 refine eIn 17 74 ((m-1+vl.length:Nat)-2) (m-1+vl.length-2) ?_
 refine eX 18 75 (some ⟨b5,0,none⟩) (x.length+1) (x.length+1) 1 (m-1+vl.length-2:Nat) (m-1+vl.length-2) rfl ?_
 refine eQ 19 76 1 ul u64c 1 0 (m-1+vl.length-2) (.int .u64 ((ul).getD (m-1+vl.length-2) 0:Nat)) hs oM ?_
 refine eV 20 77 (.slice V y.length vc) ?_
 refine eV 21 78 (.int .i64 (y.length:Nat)) ?_
 refine eIn 22 79 ((y.length:Nat)-1) (vl.length-1) ?_
 refine eX 23 80 V y.length vc 1 (vl.length-1:Nat) (vl.length-1) ((hs.f.2.1).ok oM) ?_
 refine eH 24 81 (.int .u64 (vl.getD (vl.length-1) 0:Nat)) hs ((hs.f.2.1).el (vl.length-1) oM) ?_
 refine eV 25 82 (.slice V y.length vc) ?_
 refine eV 26 83 (.int .i64 (y.length:Nat)) ?_
 refine eIn 27 84 ((y.length:Nat)-2) (vl.length-2) ?_
 refine eX 28 85 V y.length vc 1 (vl.length-2:Nat) (vl.length-2) ((hs.f.2.1).ok oM) ?_
 refine eH 29 86 (.int .u64 (vl.getD (vl.length-2) 0:Nat)) hs ((hs.f.2.1).el (vl.length-2) oM) ?_
 refine eC 30 87 hs (fun _ _ hs=>nGuess (((ul).getD (m-1+vl.length) 0)) (((ul).getD (m-1+vl.length-1) 0)) (((ul).getD (m-1+vl.length-2) 0)) ((vl.getD (vl.length-1) 0)) ((vl.getD (vl.length-2) 0)) (hWu.get _) (hWu.get _) (hWu.get _) (hWvl.get _) (hWvl.get _) hle oM _ _ hs.g) ?_
 rintro _ _ _ w32 h33 hs ⟨g,rfl,hG0⟩
 have hG:=dv_guess (n:=vl.length) (j:=m-1) hn2 rfl hWvl hWu hjn htopv hR1 hG0
 have hgb:=hG0.2.2
 refine eD0 hs (fun w34 h35 hs=>?_)
 refine tV 31 11 (.int .u64 (g:Nat)) ?_
 refine tN (cTo [(4,.slice (some ⟨b12,0,none⟩) ((x.length-y.length)+1) ((x.length-y.length)+1)),(5,.slice none 0 0),(6,.int .i64 (y.length:Nat)),(7,.int .i64 (64-nb (y.getD (y.length-1) 0):Nat)),(8,.slice V y.length vc),(9,.slice (some ⟨b5,0,none⟩) (x.length+1) (x.length+1)),(10,.int .i64 (((m:Nat):Int)-1)),(11,.int .u64 (g:Nat))] ?_)
 refine cSL (lL hs [.v 12 (.int .u64 0),.v 13 (.int .u64 0)] (lN (CG.seq (cSL (lL hs [.m 88 6,.v 89 (.int .i64 0)] (lN (CG.block (cTo [(4,.slice (some ⟨b12,0,none⟩) ((x.length-y.length)+1) ((x.length-y.length)+1)),(5,.slice none 0 0),(6,.int .i64 (y.length:Nat)),(7,.int .i64 (64-nb (y.getD (y.length-1) 0):Nat)),(8,.slice V y.length vc),(9,.slice (some ⟨b5,0,none⟩) (x.length+1) (x.length+1)),(10,.int .i64 (((m:Nat):Int)-1)),(11,.int .u64 (g:Nat)),(88,.int .i64 (y.length:Nat)),(89,.int .i64 0),(12,.int .u64 0),(13,.int .u64 0)] ?_))))))))
 refine CG.loop (fun μ_ Γ w_=>∃ (i:Nat) (u1:List Nat) (cy:Nat) (bo:Nat) (h_:Hp),μ_=y.length-i∧Γ=[(4,.slice (some ⟨b12,0,none⟩) ((x.length-y.length)+1) ((x.length-y.length)+1)),(5,.slice none 0 0),(6,.int .i64 (y.length:Nat)),(7,.int .i64 (64-nb (y.getD (y.length-1) 0):Nat)),(8,.slice V y.length vc),(9,.slice (some ⟨b5,0,none⟩) (x.length+1) (x.length+1)),(10,.int .i64 (((m:Nat):Int)-1)),(11,.int .u64 (g:Nat)),(88,.int .i64 (y.length:Nat)),(89,.int .i64 (i:Nat)),(12,.int .u64 (cy:Nat)),(13,.int .u64 (bo:Nat))]∧SS w h w_ h_ [⟨b12,50,(ql).flatMap u64c⟩,⟨b5,50,(u1).flatMap u64c⟩] [] [fun h_=>SlO 1 u64c 0 h_ Uo zu,fun h_=>SlO 1 u64c 0 h_ V vl,fun h_=>SlO 1 u64c 0 h_ V zv,fun h_=>SlO 1 u64c 0 h_ D y,fun h_=>SlO 1 u64c 0 h_ A x]∧(i≤y.length)∧(u1.length=x.length+1)∧(Wd u1)∧(cy<18446744073709551616)∧(bo≤1)∧(bval 18446744073709551616 u1+18446744073709551616^(m-1)*(g*bval 18446744073709551616 (vl.take i))=wval ul+18446744073709551616^(m-1+i)*(cy+bo))∧(Above u1 ul (m-1+vl.length+1))) _ ⟨0,ul,0,0,h35,rfl,rfl,hs.to _ _,Nat.zero_le _,hul,hWu,oM,oM,(by show bval _ ul+_=bval _ ul+_;simp[bval]),Above.refl _ _⟩ ?_
 rintro _ _ w36 ⟨i,u1,cy,bo,h37,hm38,rfl,hs,hi,hu1,hW1,hcy,hbo,inv1,hab1⟩
 have hu1k:=hW1.get (m-1+i)
 have hvk:=hWvl.get i
 refine cSL ?_
 cases hb39:(decide (((i:Nat):Int)<((y.length:Nat):Int)))
 ·
  have phb39:=oF hb39
  refine lB 90 hb39 ?_
  refine lN (CG.seq (cIF (CG.exit ?_)))
  show CG _ _ _ _ _ _ _ _
  refine cSL ?_
  rw[show i=vl.length by omega] at inv1
  have hu1n:=hW1.get (m-1+vl.length)
  refine lL hs [.m 129 9,.m 130 10,.m 131 6] (lIn 132 ((((m:Nat):Int)-1)+(y.length:Nat)) (m-1+vl.length) ?_)
  refine lL hs [.m 133 9,.m 134 10,.m 135 6] (lIn 136 ((((m:Nat):Int)-1)+(y.length:Nat)) (m-1+vl.length) ?_)
  refine lX 137 (some ⟨b5,0,none⟩) (x.length+1) (x.length+1) 1 (m-1+vl.length:Nat) (m-1+vl.length) rfl ?_
  refine lQ 138 1 u1 u64c 1 0 (m-1+vl.length) (.int .u64 ((u1).getD (m-1+vl.length) 0:Nat)) hs oM ?_
  refine lL hs [.m 139 12,.m 140 13] ?_
  obtain ⟨s40,c41,he42,hl43,hm44,hr45⟩:=bSub64 ((u1).getD (m-1+vl.length) 0) cy bo wM wM oM
  refine lV 141 (.tuple #[.int .u64 (s40:Nat),.int .u64 (c41:Nat)]) ?_ (hr:=opExt kR (hr45 _))
  refine lL hs [.m 128 141,.v 142 (.int .u64 (s40:Nat)),.v 143 (.int .u64 (c41:Nat))] (lX 144 (some ⟨b5,0,none⟩) (x.length+1) (x.length+1) 1 (m-1+vl.length:Nat) (m-1+vl.length) rfl ?_)
  refine lW 1 u1 u64c 1 (m-1+vl.length) s40 hs oM (fun w46 hs=>?_)
  have hl47:((u1).set (m-1+vl.length) s40).length=(x.length+1):=by rw[List.length_set];exact hu1
  replace hs:=hs.to [⟨b12,50,(ql).flatMap u64c⟩,⟨b5,50,((u1).set (m-1+vl.length) s40).flatMap u64c⟩] []
  refine lL hs [.m 13 143] (lN (CG.seq (cSL ?_)))
  have hE:=ms_end oM inv1 (s:=s40) (bo':=c41) oM
  have hW4:Wd ((u1).set (m-1+vl.length) s40):=hW1.set _ oM
  have hab4:=hab1.set (x:=s40) (show m-1+vl.length<m-1+vl.length+1 by omega) oM
  refine lL hs [.m 145 13] ?_
  cases hb48:(((c41:Nat):Int) != (0:Int))
  ·
   have phb48:=eqOfBne hb48
   refine lB 146 hb48 ?_
   refine lN (cIF (CG.skipN (CG.listed ?_)))
   have hD_:=dv_zero hn2 rfl hWvl hWu hW4 hjn htopv hR1 hG hab4 (by rw[show c41=0 by omega] at hE;exact hE)
   have hDw:=hW4
   have hDg:=hgb
   have hDu:=hD_.1
   have hDe:=hD_.2
   refine lL hs [.m 183 4,.m 184 10,.m 185 11] (lX 186 (some ⟨b12,0,none⟩) ((x.length-y.length)+1) ((x.length-y.length)+1) 1 (((m:Nat):Int)-1) (m-1) rfl ?_)
   refine lW 0 ql u64c 1 (m-1) g hs oM (fun w49 hs=>?_)
   have hl50:((ql).set (m-1) g).length=((x.length-y.length)+1):=by rw[List.length_set];exact hql
   replace hs:=hs.to [⟨b12,50,((ql).set (m-1) g).flatMap u64c⟩,⟨b5,50,((u1).set (m-1+vl.length) s40).flatMap u64c⟩] []
   refine lN (CG.listed (lL hs [.m 55 10] (lV 56 (.int .i64 (((m-1:Nat):Int)-1)) ?_ (hr:=rint (n:=IntKind.wrap .i64 ((((m:Nat):Int)-1)-1)) kR ((wr64 oM oM).trans oM)))))
   refine lL hs [.m 10 56] (lD ?_)
   intro a_ ka
   have q51:(m-1)≤x.length-y.length+1:=by omega
   have q52:((u1).set (m-1+vl.length) s40).length=x.length+1:=hl47
   have q53:Wd ((u1).set (m-1+vl.length) s40):=hDw
   have q54:((ql).set (m-1) g).length=x.length-y.length+1:=hl50
   have q55:Wd ((ql).set (m-1) g):=(hWq.set _ hDg)
   have q56:wval ((u1).set (m-1+vl.length) s40)<18446744073709551616^(m-1)*wval vl:=hDu
   have q57:wval zu=wval ((ql).set (m-1) g)*wval vl+wval ((u1).set (m-1+vl.length) s40):=(dv_quo oM (hq0 _ oM) inv hDe)
   have q58:∀ k,k<(m-1)→((ql).set (m-1) g).getD k 0=0:=(fun k hk=>by rw[getD_set' oM,if_neg oM];exact hq0 k oM)
   refine ⟨_,_,?_,⟨m-1,(u1).set (m-1+vl.length) s40,(ql).set (m-1) g,h37,rfl,rfl,hs.to _ _,q51,q52,q53,q54,q55,q56,q57,q58⟩,ka.to [(4,.slice (some ⟨b12,0,none⟩) ((x.length-y.length)+1) ((x.length-y.length)+1)),(5,.slice none 0 0),(6,.int .i64 (y.length:Nat)),(7,.int .i64 (64-nb (y.getD (y.length-1) 0):Nat)),(8,.slice V y.length vc),(9,.slice (some ⟨b5,0,none⟩) (x.length+1) (x.length+1)),(10,.int .i64 ((((m-1):Nat):Int)-1))] kR⟩
   omega
  have phb48:=neOfBne hb48
  refine lB 146 hb48 ?_
  refine lN (cIT (cSL (lL hs [.m 147 11] ?_)))
  have hE1:=hE
  rw[show c41=1 by omega] at hE1
  have hgp:=dv_pos hn2 rfl hWvl hWu hW4 hjn htopv hR1 hG hab4 hE1
  refine lV 148 (.int .u64 (g-1:Nat)) ?_ (hr:=rint (n:=IntKind.wrap .u64 (((g:Nat):Int)-(1:Int))) kR (fSU64 g 1 oM oM))
  refine lL hs [.m 11 148] (lNS (lL hs [.v 19 (.int .u64 0)] (lN (CG.seq (cSL (lL hs [.m 149 6,.v 150 (.int .i64 0)] (lN (CG.block (cTo [(4,.slice (some ⟨b12,0,none⟩) ((x.length-y.length)+1) ((x.length-y.length)+1)),(5,.slice none 0 0),(6,.int .i64 (y.length:Nat)),(7,.int .i64 (64-nb (y.getD (y.length-1) 0):Nat)),(8,.slice V y.length vc),(9,.slice (some ⟨b5,0,none⟩) (x.length+1) (x.length+1)),(10,.int .i64 (((m:Nat):Int)-1)),(11,.int .u64 (g-1:Nat)),(149,.int .i64 (y.length:Nat)),(150,.int .i64 0),(19,.int .u64 0)] ?_)))))))))
  refine CG.loop (fun μ_ Γ w_=>∃ (i2:Nat) (u2:List Nat) (c2:Nat) (h_:Hp),μ_=y.length-i2∧Γ=[(4,.slice (some ⟨b12,0,none⟩) ((x.length-y.length)+1) ((x.length-y.length)+1)),(5,.slice none 0 0),(6,.int .i64 (y.length:Nat)),(7,.int .i64 (64-nb (y.getD (y.length-1) 0):Nat)),(8,.slice V y.length vc),(9,.slice (some ⟨b5,0,none⟩) (x.length+1) (x.length+1)),(10,.int .i64 (((m:Nat):Int)-1)),(11,.int .u64 (g-1:Nat)),(149,.int .i64 (y.length:Nat)),(150,.int .i64 (i2:Nat)),(19,.int .u64 (c2:Nat))]∧SS w h w_ h_ [⟨b12,50,(ql).flatMap u64c⟩,⟨b5,50,(u2).flatMap u64c⟩] [] [fun h_=>SlO 1 u64c 0 h_ Uo zu,fun h_=>SlO 1 u64c 0 h_ V vl,fun h_=>SlO 1 u64c 0 h_ V zv,fun h_=>SlO 1 u64c 0 h_ D y,fun h_=>SlO 1 u64c 0 h_ A x]∧(i2≤y.length)∧(u2.length=x.length+1)∧(Wd u2)∧(c2≤1)∧(bval 18446744073709551616 u2+18446744073709551616^(m-1+i2)*c2=bval 18446744073709551616 ((u1).set (m-1+vl.length) s40)+18446744073709551616^(m-1)*bval 18446744073709551616 (vl.take i2))∧(Above u2 ul (m-1+vl.length+1))) _ ⟨0,(u1).set (m-1+vl.length) s40,0,h37,rfl,rfl,hs.to _ _,Nat.zero_le _,hl47,hW4,oM,(by simp[bval]),hab4⟩ ?_
  rintro _ _ w59 ⟨i2,u2,c2,h60,hm61,rfl,hs,hi2,hu2,hW2,hc2,inv3,hab2⟩
  have hu2k:=hW2.get (m-1+i2)
  have hvk2:=hWvl.get i2
  refine cSL ?_
  cases hb62:(decide (((i2:Nat):Int)<((y.length:Nat):Int)))
  ·
   have phb62:=oF hb62
   refine lB 151 hb62 ?_
   refine lN (CG.seq (cIF (CG.exit ?_)))
   show CG _ _ _ _ _ _ _ _
   refine CG.listed (lL hs [.m 174 9,.m 175 10,.m 176 6] (lIn 177 ((((m:Nat):Int)-1)+(y.length:Nat)) (m-1+vl.length) ?_))
   refine lX 178 (some ⟨b5,0,none⟩) (x.length+1) (x.length+1) 1 (m-1+vl.length:Nat) (m-1+vl.length) rfl ?_
   refine lQ 179 1 u2 u64c 1 0 (m-1+vl.length) (.int .u64 ((u2).getD (m-1+vl.length) 0:Nat)) hs oM ?_
   refine lL hs [.m 180 19] (lV 181 (.int .u64 ((((u2).getD (m-1+vl.length) 0)+c2)%18446744073709551616:Nat)) ?_ (hr:=rint (n:=IntKind.wrap .u64 ((((u2).getD (m-1+vl.length) 0:Nat):Int)+((c2:Nat):Int))) kR (wAU64 ((u2).getD (m-1+vl.length) 0) c2)))
   refine lX 182 (some ⟨b5,0,none⟩) (x.length+1) (x.length+1) 1 (m-1+vl.length:Nat) (m-1+vl.length) rfl ?_
   refine lW 1 u2 u64c 1 (m-1+vl.length) ((((u2).getD (m-1+vl.length) 0)+c2)%18446744073709551616:Nat) hs oM (fun w63 hs=>?_)
   have hl64:((u2).set (m-1+vl.length) ((((u2).getD (m-1+vl.length) 0)+c2)%18446744073709551616:Nat)).length=(x.length+1):=by rw[List.length_set];exact hu2
   replace hs:=hs.to [⟨b12,50,(ql).flatMap u64c⟩,⟨b5,50,((u2).set (m-1+vl.length) ((((u2).getD (m-1+vl.length) 0)+c2)%18446744073709551616:Nat)).flatMap u64c⟩] []
   refine lN (CG.listed ?_)
   have hi2n:i2=vl.length:=by omega
   rw[hi2n] at inv3
   have hu2k:=hW2.get (m-1+vl.length)
   have hE3:=ab_end (s:=(u2.getD (m-1+vl.length) 0+c2)%18446744073709551616) (c':=(u2.getD (m-1+vl.length) 0+c2)/18446744073709551616) oM inv3 (Nat.mod_add_div _ _)
   have hDw:Wd ((u2).set (m-1+vl.length) ((((u2).getD (m-1+vl.length) 0)+c2)%18446744073709551616:Nat)):=hW2.set _ (Nat.mod_lt _ kD)
   obtain ⟨hDu,hDe,hDp⟩:=dv_one hn2 rfl hWvl hWu hW4 hDw hjn htopv hR1 hG hab4 (hab2.set oM oM) hE1 hE3
   have hDg:g-1<18446744073709551616:=by omega
   refine lL hs [.m 183 4,.m 184 10,.m 185 11] (lX 186 (some ⟨b12,0,none⟩) ((x.length-y.length)+1) ((x.length-y.length)+1) 1 (((m:Nat):Int)-1) (m-1) rfl ?_)
   refine lW 0 ql u64c 1 (m-1) (g-1) hs oM (fun w65 hs=>?_)
   have hl66:((ql).set (m-1) (g-1)).length=((x.length-y.length)+1):=by rw[List.length_set];exact hql
   replace hs:=hs.to [⟨b12,50,((ql).set (m-1) (g-1)).flatMap u64c⟩,⟨b5,50,((u2).set (m-1+vl.length) ((((u2).getD (m-1+vl.length) 0)+c2)%18446744073709551616:Nat)).flatMap u64c⟩] []
   refine lN (CG.listed (lL hs [.m 55 10] (lV 56 (.int .i64 (((m-1:Nat):Int)-1)) ?_ (hr:=rint (n:=IntKind.wrap .i64 ((((m:Nat):Int)-1)-1)) kR ((wr64 oM oM).trans oM)))))
   refine lL hs [.m 10 56] (lD ?_)
   intro a_ ka
   have q67:(m-1)≤x.length-y.length+1:=by omega
   have q68:((u2).set (m-1+vl.length) ((((u2).getD (m-1+vl.length) 0)+c2)%18446744073709551616:Nat)).length=x.length+1:=hl64
   have q69:Wd ((u2).set (m-1+vl.length) ((((u2).getD (m-1+vl.length) 0)+c2)%18446744073709551616:Nat)):=hDw
   have q70:((ql).set (m-1) (g-1)).length=x.length-y.length+1:=hl66
   have q71:Wd ((ql).set (m-1) (g-1)):=(hWq.set _ hDg)
   have q72:wval ((u2).set (m-1+vl.length) ((((u2).getD (m-1+vl.length) 0)+c2)%18446744073709551616:Nat))<18446744073709551616^(m-1)*wval vl:=hDu
   have q73:wval zu=wval ((ql).set (m-1) (g-1))*wval vl+wval ((u2).set (m-1+vl.length) ((((u2).getD (m-1+vl.length) 0)+c2)%18446744073709551616:Nat)):=(dv_quo oM (hq0 _ oM) inv hDe)
   have q74:∀ k,k<(m-1)→((ql).set (m-1) (g-1)).getD k 0=0:=(fun k hk=>by rw[getD_set' oM,if_neg oM];exact hq0 k oM)
   refine ⟨_,_,?_,⟨m-1,(u2).set (m-1+vl.length) ((((u2).getD (m-1+vl.length) 0)+c2)%18446744073709551616:Nat),(ql).set (m-1) (g-1),h60,rfl,rfl,hs.to _ _,q67,q68,q69,q70,q71,q72,q73,q74⟩,ka.to [(4,.slice (some ⟨b12,0,none⟩) ((x.length-y.length)+1) ((x.length-y.length)+1)),(5,.slice none 0 0),(6,.int .i64 (y.length:Nat)),(7,.int .i64 (64-nb (y.getD (y.length-1) 0):Nat)),(8,.slice V y.length vc),(9,.slice (some ⟨b5,0,none⟩) (x.length+1) (x.length+1)),(10,.int .i64 ((((m-1):Nat):Int)-1))] kR⟩
   omega
  have phb62:=oT hb62
  refine lB 151 hb62 ?_
  refine lN (CG.seq (cIT (CG.skipN (CG.seq (CG.block (cSL (lL hs [.m 152 150,.m 20 152] (lN (cR 19 [] mixed hs al_nil ?_)))))))))
  refine eV 0 154 (.slice (some ⟨b5,0,none⟩) (x.length+1) (x.length+1)) ?_
  refine eV 1 155 (.int .i64 (((m:Nat):Int)-1)) ?_
  refine eV 2 156 (.int .i64 (i2:Nat)) ?_
  refine eIn 3 157 ((((m:Nat):Int)-1)+(i2:Nat)) (m-1+i2) ?_
  refine eV 4 158 (.slice (some ⟨b5,0,none⟩) (x.length+1) (x.length+1)) ?_
  refine eV 5 159 (.int .i64 (((m:Nat):Int)-1)) ?_
  refine eV 6 160 (.int .i64 (i2:Nat)) ?_
  refine eIn 7 161 ((((m:Nat):Int)-1)+(i2:Nat)) (m-1+i2) ?_
  refine eX 8 162 (some ⟨b5,0,none⟩) (x.length+1) (x.length+1) 1 (m-1+i2:Nat) (m-1+i2) rfl ?_
  refine eQ 9 163 1 u2 u64c 1 0 (m-1+i2) (.int .u64 ((u2).getD (m-1+i2) 0:Nat)) hs oM ?_
  refine eV 10 164 (.slice V y.length vc) ?_
  refine eV 11 165 (.int .i64 (i2:Nat)) ?_
  refine eX 12 166 V y.length vc 1 (i2:Nat) i2 ((hs.f.2.1).ok oM) ?_
  refine eH 13 167 (.int .u64 (vl.getD i2 0:Nat)) hs ((hs.f.2.1).el i2 oM) ?_
  refine eV 14 168 (.int .u64 (c2:Nat)) ?_
  obtain ⟨s75,c76,he77,hl78,hm79,hr80⟩:=bAdd64 ((u2).getD (m-1+i2) 0) (vl.getD i2 0) c2 wM wM oM
  refine eV 15 169 (.tuple #[.int .u64 (s75:Nat),.int .u64 (c76:Nat)]) ?_ (hv:=fun _=>opExt kR (hr80 _))
  refine eV 16 153 (.tuple #[.int .u64 (s75:Nat),.int .u64 (c76:Nat)]) ?_
  refine eV 17 170 (.int .u64 (s75:Nat)) ?_
  refine eV 18 171 (.int .u64 (c76:Nat)) ?_
  refine eD0 hs (fun w81 h82 hs=>?_)
  refine tX 19 172 (some ⟨b5,0,none⟩) (x.length+1) (x.length+1) 1 (m-1+i2:Nat) (m-1+i2) rfl ?_
  refine tW 20 1 u2 u64c 1 (m-1+i2) s75 hs oM (fun w83 hs=>?_)
  have hl84:((u2).set (m-1+i2) s75).length=(x.length+1):=by rw[List.length_set];exact hu2
  replace hs:=hs.to [⟨b12,50,(ql).flatMap u64c⟩,⟨b5,50,((u2).set (m-1+i2) s75).flatMap u64c⟩] []
  refine tV 21 19 (.int .u64 (c76:Nat)) ?_
  refine tN (CG.listed (lIn 173 ((i2:Nat)+1) (i2+1) ?_))
  refine lL hs [.m 150 173] (lD ?_)
  intro a_ ka
  have q85:(i2+1)≤y.length:=by omega
  have q86:((u2).set (m-1+i2) s75).length=x.length+1:=hl84
  have q87:Wd ((u2).set (m-1+i2) s75):=(hW2.set _ oM)
  have q88:c76≤1:=oM
  have q89:bval 18446744073709551616 ((u2).set (m-1+i2) s75)+18446744073709551616^(m-1+(i2+1))*c76=bval 18446744073709551616 ((u1).set (m-1+vl.length) s40)+18446744073709551616^(m-1)*bval 18446744073709551616 (vl.take (i2+1)):=(ab_step oM inv3 oM)
  have q90:Above ((u2).set (m-1+i2) s75) ul (m-1+vl.length+1):=(hab2.set oM oM)
  refine ⟨_,_,?_,⟨i2+1,(u2).set (m-1+i2) s75,c76,h82,rfl,rfl,hs.to _ _,q85,q86,q87,q88,q89,q90⟩,ka.to [(4,.slice (some ⟨b12,0,none⟩) ((x.length-y.length)+1) ((x.length-y.length)+1)),(5,.slice none 0 0),(6,.int .i64 (y.length:Nat)),(7,.int .i64 (64-nb (y.getD (y.length-1) 0):Nat)),(8,.slice V y.length vc),(9,.slice (some ⟨b5,0,none⟩) (x.length+1) (x.length+1)),(10,.int .i64 (((m:Nat):Int)-1)),(11,.int .u64 (g-1:Nat)),(149,.int .i64 (y.length:Nat)),(150,.int .i64 ((i2+1):Nat)),(19,.int .u64 (c76:Nat))] kR⟩
  omega
 have phb39:=oT hb39
 refine lB 90 hb39 ?_
 refine lN (CG.seq (cIT (CG.skipN (CG.seq (CG.block (cSL (lL hs [.m 91 89,.m 14 91] (lNS (lL hs [.m 93 11,.m 94 8,.m 95 14] (lX 96 V y.length vc 1 (i:Nat) i ((hs.f.2.1).ok oM) ?_))))))))))
 refine lH 97 (.int .u64 (vl.getD i 0:Nat)) hs ((hs.f.2.1).el i oM) ?_
 refine lC 98 hs (bMul64 g (vl.getD i 0) wM wM _ _ hs.g) ?_
 rintro _ w97 h98 hs ⟨s91,c92,rfl,he93,hl94,hm95,hn96⟩
 have hxhe93:=mul64_le (a:=g) (b:=(vl.getD i 0)) wM wM
 refine lL hs [.m 92 98,.v 99 (.int .u64 (s91:Nat)),.v 100 (.int .u64 (c92:Nat)),.m 15 99,.m 16 100] (lNS (lL hs [.m 102 16,.m 103 12] ?_))
 obtain ⟨s99,c100,he101,hl102,hm103,hr104⟩:=bAdd64 c92 cy 0 wM wM oM
 refine lV 104 (.tuple #[.int .u64 (s99:Nat),.int .u64 (c100:Nat)]) ?_ (hr:=opExt kR (hr104 _))
 refine lL hs [.m 101 104,.v 105 (.int .u64 (s99:Nat)),.v 106 (.int .u64 (c100:Nat)),.m 17 105,.m 18 106] (lNS (lL hs [.m 107 15,.m 108 18] (lV 109 (.int .u64 (s91+c100:Nat)) ?_ (hr:=rint (n:=IntKind.wrap .u64 (((s91:Nat):Int)+((c100:Nat):Int))) kR (fAU64 s91 c100 oM)))))
 refine lL hs [.m 12 109] (lN (CG.listed (lL hs [.m 111 9,.m 112 10,.m 113 14] (lIn 114 ((((m:Nat):Int)-1)+(i:Nat)) (m-1+i) ?_))))
 refine lL hs [.m 115 9,.m 116 10,.m 117 14] (lIn 118 ((((m:Nat):Int)-1)+(i:Nat)) (m-1+i) ?_)
 refine lX 119 (some ⟨b5,0,none⟩) (x.length+1) (x.length+1) 1 (m-1+i:Nat) (m-1+i) rfl ?_
 refine lQ 120 1 u1 u64c 1 0 (m-1+i) (.int .u64 ((u1).getD (m-1+i) 0:Nat)) hs oM ?_
 refine lL hs [.m 121 17,.m 122 13] ?_
 obtain ⟨s105,c106,he107,hl108,hm109,hr110⟩:=bSub64 ((u1).getD (m-1+i) 0) s99 bo wM wM oM
 refine lV 123 (.tuple #[.int .u64 (s105:Nat),.int .u64 (c106:Nat)]) ?_ (hr:=opExt kR (hr110 _))
 refine lL hs [.m 110 123,.v 124 (.int .u64 (s105:Nat)),.v 125 (.int .u64 (c106:Nat))] (lX 126 (some ⟨b5,0,none⟩) (x.length+1) (x.length+1) 1 (m-1+i:Nat) (m-1+i) rfl ?_)
 refine lW 1 u1 u64c 1 (m-1+i) s105 hs oM (fun w111 hs=>?_)
 have hl112:((u1).set (m-1+i) s105).length=(x.length+1):=by rw[List.length_set];exact hu1
 replace hs:=hs.to [⟨b12,50,(ql).flatMap u64c⟩,⟨b5,50,((u1).set (m-1+i) s105).flatMap u64c⟩] []
 refine lL hs [.m 13 125] (lN (cTo [(4,.slice (some ⟨b12,0,none⟩) ((x.length-y.length)+1) ((x.length-y.length)+1)),(5,.slice none 0 0),(6,.int .i64 (y.length:Nat)),(7,.int .i64 (64-nb (y.getD (y.length-1) 0):Nat)),(8,.slice V y.length vc),(9,.slice (some ⟨b5,0,none⟩) (x.length+1) (x.length+1)),(10,.int .i64 (((m:Nat):Int)-1)),(11,.int .u64 (g:Nat)),(88,.int .i64 (y.length:Nat)),(89,.int .i64 (i:Nat)),(12,.int .u64 (s91+c100:Nat)),(13,.int .u64 (c106:Nat))] ?_))
 refine CG.listed (lIn 127 ((i:Nat)+1) (i+1) ?_)
 refine lL hs [.m 89 127] (lD ?_)
 intro a_ ka
 have q113:(i+1)≤y.length:=by omega
 have q114:((u1).set (m-1+i) s105).length=x.length+1:=hl112
 have q115:Wd ((u1).set (m-1+i) s105):=(hW1.set _ oM)
 have q116:(s91+c100)<18446744073709551616:=oM
 have q117:c106≤1:=oM
 have q118:bval 18446744073709551616 ((u1).set (m-1+i) s105)+18446744073709551616^(m-1)*(g*bval 18446744073709551616 (vl.take (i+1)))=wval ul+18446744073709551616^(m-1+(i+1))*((s91+c100)+c106):=(ms_step (t:=s99) oM inv1 oM oM)
 have q119:Above ((u1).set (m-1+i) s105) ul (m-1+vl.length+1):=(hab1.set oM oM)
 refine ⟨_,_,?_,⟨i+1,(u1).set (m-1+i) s105,(s91+c100),c106,h98,rfl,rfl,hs.to _ _,q113,q114,q115,q116,q117,q118,q119⟩,ka.to [(4,.slice (some ⟨b12,0,none⟩) ((x.length-y.length)+1) ((x.length-y.length)+1)),(5,.slice none 0 0),(6,.int .i64 (y.length:Nat)),(7,.int .i64 (64-nb (y.getD (y.length-1) 0):Nat)),(8,.slice V y.length vc),(9,.slice (some ⟨b5,0,none⟩) (x.length+1) (x.length+1)),(10,.int .i64 (((m:Nat):Int)-1)),(11,.int .u64 (g:Nat)),(88,.int .i64 (y.length:Nat)),(89,.int .i64 ((i+1):Nat)),(12,.int .u64 ((s91+c100):Nat)),(13,.int .u64 (c106:Nat))] kR⟩
 omega
theorem nFromE (A:Option Addr)(c:Nat)(l:List Nat)(m x:Nat)(hm:l.length=m)(hd:Wd l)(hv:wval l=x)(hl:l.length≤1099511627776)(hc:l.length≤c)(w:World)(h:Hp)(g:G w h)(hA:SlO 1 u64c 0 h A l):Calls Tryz.prog 108 #[.slice A m c] w (Ret w h fun v _=>v=nv x):=by
  subst hm hv;exact nFrom A c l hd hl hc w h g hA
theorem nAddS (a b:Nat)(hla:(wds a).length≤1000000000)(hlb:(wds b).length≤1000000000)(has:a<18446744073709551616)(hbs:b<18446744073709551616)(w:World)(h:Hp)(g:G w h) :
    Calls Tryz.prog 100 #[nv a,nv b] w (Ret w h fun v _=>v=nv (a+b)):=by
 have hs:=SS.start g
 have ham:=Nat.mod_eq_of_lt has
 have hbm:=Nat.mod_eq_of_lt hbs
 refine go Tryz.func100 [(0,nv a),(1,nv b)] rfl ?_
 refine cSL (lA 2 52 (nc a) hs (fun b1 w2 h3 hs=>?_))
 refine lA 3 52 (nc b) hs (fun b4 w5 h6 hs=>?_)
 refine lA 4 52 ([.int .u64 0,.string ⟨#[]⟩]) hs (fun b7 w8 h9 hs=>?_)
 refine lN (CG.seq (cSL (lL hs [.v 12 (.pointer (some ⟨b1,1,none⟩)),.o 13 (.string (hi a)) 2 1 1] (lV 14 (.bool true) ?_ (hr:=rb kR (strE (hi_nil has)))))))
 refine lL hs [.m 15 14,.v 16 (.pointer (some ⟨b4,1,none⟩)),.o 17 (.string (hi b)) 1 1 1] (lV 18 (.bool true) ?_ (hr:=rb kR (strE (hi_nil hbs))))
 refine lL hs [.v 19 (.bool true)] (lN (cIT (cSL (lL hs [.v 21 (.pointer (some ⟨b1,0,none⟩)),.o 22 (.int .u64 (a%18446744073709551616:Nat)) 2 0 1,.v 23 (.pointer (some ⟨b4,0,none⟩)),.o 24 (.int .u64 (b%18446744073709551616:Nat)) 1 0 1] ?_))))
 obtain ⟨s10,c11,he12,hl13,hm14,hr15⟩:=bAdd64 (a%18446744073709551616) (b%18446744073709551616) 0 wM wM oM
 refine lV 25 (.tuple #[.int .u64 (s10:Nat),.int .u64 (c11:Nat)]) ?_ (hr:=opExt kR (hr15 _))
 refine lL hs [.m 20 25,.v 26 (.int .u64 (s10:Nat)),.v 27 (.int .u64 (c11:Nat)),.m 5 26,.m 6 27] (lN (CG.seq (cSL (lL hs [.m 28 6] ?_))))
 cases hb16:(((c11:Nat):Int) == (0:Int))
 ·
  have phb16:=neOfBeq hb16
  refine lB 29 hb16 ?_
  refine lN (cIF (CG.skipN (cSL (lL hs [.m 32 5,.m 33 6] (lR 34 50 2 ([.int .u64 (s10:Nat),.int .u64 (c11:Nat)]) hs (fun b17 w18 h19 hs=>?_))))))
  replace hs:=hs.a_SlO (SlO.of_flat (sz:=1) (f:=u64c) (d:=0) (l:=[s10,c11]) (fun _=>rfl) (hs.f.1))
  refine lC 35 hs (nFromE (some ⟨b17,0,none⟩) 2 ([s10,c11]) 2 ((a+b)) (by first|rfl|assumption|(simp;done)|(simp;omega)|omega) (Dg.cons oM (Dg.one oM)) (by show s10+18446744073709551616*(c11+18446744073709551616*0)=a+b;omega) sM sM _ _ hs.g (hs.f.1)) ?_
  rintro _ w22 h23 hs rfl
  refine lP 0 0 (nc (a+b)) hs (fun w24 hs=>?_)
  exact lN (CG.ret (hs.ret [(0,0,2)] (nv (a+b)) rfl))
 have phb16:=eq_of_beq hb16
 refine lB 29 hb16 ?_
 refine lN (cIT (cSL (lL hs [.m 30 5,.v 31 (.agg #[.int .u64 (s10:Nat),.string ⟨#[]⟩])] (lP 0 0 ([.int .u64 (s10:Nat),.string ⟨#[]⟩]) hs (fun w25 hs=>?_)))))
 exact lN (CG.ret (hs.ret [(0,0,2)] (.agg #[.int .u64 (s10:Nat),.string ⟨#[]⟩]) (by rw[show s10=a+b by omega];exact nv_lit oM)))
theorem nAddL (a b:Nat)(hla:(wds a).length≤1000000000)(hlb:(wds b).length≤1000000000)(has:18446744073709551616≤a)(hb0:0<b)(w:World)(h:Hp)(g:G w h) :
    Calls Tryz.prog 100 #[nv a,nv b] w (Ret w h fun v _=>v=nv (a+b)):=by
 have hs:=SS.start g
 refine go Tryz.func100 [(0,nv a),(1,nv b)] rfl ?_
 refine cSL (lA 2 52 (nc a) hs (fun b1 w2 h3 hs=>?_))
 refine lA 3 52 (nc b) hs (fun b4 w5 h6 hs=>?_)
 refine lA 4 52 ([.int .u64 0,.string ⟨#[]⟩]) hs (fun b7 w8 h9 hs=>?_)
 refine lN (CG.seq (cSL (lL hs [.v 12 (.pointer (some ⟨b1,1,none⟩)),.o 13 (.string (hi a)) 2 1 1] (lV 14 (.bool false) ?_ (hr:=rb kR (strN (hi_ne has)))))))
 refine lL hs [.m 15 14] (lG 16 ?_)
 refine lG 17 ?_
 refine lG 18 ?_
 refine lL hs [.v 19 (.bool false)] (lN (cIF (CG.skipN (CG.seq ?_))))
 obtain ⟨K_,hK_⟩:∃ K_,K_=w8.heap.size:=⟨_,rfl⟩
 have hk_b7:b7<K_:=by rw[hK_];exact zblk hs 0
 have hk_b4:b4<K_:=by rw[hK_];exact zblk hs 1
 have hk_b1:b1<K_:=by rw[hK_];exact zblk hs 2
 refine cRa ⟨[],some (K_,[])⟩ 0 mixed ?_
 have hszK:=hs.g.size
 replace hs:=hs.drew
 have hKl:=Nat.le_of_eq hK_
 refine zO 0 36 [(2,0,2)] (nv a) rfl hKl hs (fun p hp=>by obtain rfl:=List.mem_singleton.1 hp;exact hk_b1) ?_
 refine zO 2 38 [(1,0,2)] (nv b) rfl hKl hs (fun p hp=>by obtain rfl:=List.mem_singleton.1 hp;exact hk_b4) ?_
 refine zCu 1 37 (nWords a oM oM _ _ hs.g) rfl hKl ?_
 rintro _ w10 h11 u12 hKl ⟨bw1,rfl,hlo1,hbc1,hsl1⟩
 obtain ⟨h13,hs,-,-⟩:=hs.take u12 hlo1 hbc1
 replace hs:=hs.to [⟨bw1,50,(wds a).flatMap u64c⟩,⟨b7,52,[.int .u64 0,.string ⟨#[]⟩]⟩,⟨b4,52,nc b⟩,⟨b1,52,nc a⟩] []
 refine zCu 3 39 (nWords b oM oM _ _ hs.g) rfl hKl ?_
 rintro _ w14 h15 u16 hKl ⟨bw2,rfl,hlo2,hbc2,hsl2⟩
 obtain ⟨h17,hs,-,-⟩:=hs.take u16 hlo2 hbc2
 replace hs:=hs.to [⟨bw2,50,(wds b).flatMap u64c⟩,⟨bw1,50,(wds a).flatMap u64c⟩,⟨b7,52,[.int .u64 0,.string ⟨#[]⟩]⟩,⟨b4,52,nc b⟩,⟨b1,52,nc a⟩] []
 refine zV 4 7 (.slice (some ⟨bw1,0,none⟩) ((wds a).length) ((wds a).length)) ?_
 refine zV 5 8 (.slice (some ⟨bw2,0,none⟩) ((wds b).length) ((wds b).length)) ?_
 refine tN (CG.seq (cSL (lL hs [.m 40 7,.v 41 (.int .i64 ((wds a).length:Nat)),.m 42 8,.v 43 (.int .i64 ((wds b).length:Nat))] ?_)))
 cases hb18:(decide ((((wds a).length:Nat):Int)<(((wds b).length:Nat):Int)))
 ·
  have phb18:=oF hb18
  refine lB 44 hb18 ?_
  refine lN (cIF (CG.skipN (cSL (lL hs [.v 9 (.int .u64 0)] (lN (CG.seq (cSL (lL hs [.m 47 7,.v 48 (.int .i64 ((wds a).length:Nat)),.v 49 (.int .i64 0)] (lN (CG.block (cTo [(4,.pointer (some ⟨b7,0,none⟩)),(7,.slice (some ⟨bw1,0,none⟩) ((wds a).length) ((wds a).length)),(8,.slice (some ⟨bw2,0,none⟩) ((wds b).length) ((wds b).length)),(48,.int .i64 ((wds a).length:Nat)),(49,.int .i64 0),(9,.int .u64 0)] ?_)))))))))))
  refine CG.loop (fun μ_ Γ w_=>∃ (i:Nat) (l:List Nat) (cy:Nat) (h_:Hp),μ_=(wds a).length-i∧Γ=[(4,.pointer (some ⟨b7,0,none⟩)),(7,.slice (some ⟨bw1,0,none⟩) ((wds a).length) ((wds a).length)),(8,.slice (some ⟨bw2,0,none⟩) ((wds b).length) ((wds b).length)),(48,.int .i64 ((wds a).length:Nat)),(49,.int .i64 (i:Nat)),(9,.int .u64 (cy:Nat))]∧SS w h w_ h_ [⟨bw2,50,(wds b).flatMap u64c⟩,⟨bw1,50,(l).flatMap u64c⟩,⟨b7,52,[.int .u64 0,.string ⟨#[]⟩]⟩,⟨b4,52,nc b⟩,⟨b1,52,nc a⟩] [] []∧(i≤(wds a).length)∧(l.length=(wds a).length)∧(Wd l)∧(cy≤1)∧(bval 18446744073709551616 l+18446744073709551616^i*cy=a+bval 18446744073709551616 ((wds b:List Nat).take i))) _ ⟨0,wds a,0,h17,rfl,rfl,hs.to _ _,Nat.zero_le _,rfl,Wd.wds _,oM,(by have hx_:bval 18446744073709551616 (wds a)=a:=wval_wds _;rw[hx_];simp[bval])⟩ ?_
  rintro _ _ w19 ⟨i,l,cy,h20,hm21,rfl,hs,hi,hll,hW,hcy,inv⟩
  have hlk:=hW.get i
  have hyk:=(Wd.wds b).get i
  refine cSL ?_
  cases hb22:(decide (((i:Nat):Int)<(((wds a).length:Nat):Int)))
  ·
   have phb22:=oF hb22
   refine lB 50 hb22 ?_
   refine lN (CG.seq (cIF (CG.exit ?_)))
   show CG _ _ _ _ _ _ _ _
   refine CG.seq (cSL ?_)
   have hE:=inv
   rw[List.take_of_length_le (show (wds b).length≤i by first|omega|(simp;done)|(simp;omega))] at hE
   rw[show i=l.length by omega] at hE
   have hE_:bval 18446744073709551616 (wds b)=b:=wval_wds _
   replace hE:bval 18446744073709551616 l+18446744073709551616^l.length*cy=(a+b):=by rw[hE,hE_];first|done|omega
   refine lL hs [.m 74 9] ?_
   cases hb23:(((cy:Nat):Int) != (0:Int))
   ·
    have phb23:=eqOfBne hb23
    refine lB 75 hb23 ?_
    refine lN (cIF (CG.skipN (cSL ?_)))
    obtain ⟨h24,hs,sg25,lo26,bc27⟩:=hs.pub 1
    replace hs:=(hs.to [⟨bw2,50,(wds b).flatMap u64c⟩,⟨b7,52,[.int .u64 0,.string ⟨#[]⟩]⟩,⟨b4,52,nc b⟩,⟨b1,52,nc a⟩] []).a_SlO (SlO.of_flat (sz:=1) (f:=u64c) (d:=0) (b:=bw1) (o:=0) (l:=l) (fun _=>rfl) sg25)
    refine lL hs [.m 80 7] (lC 81 hs (nFromE (some ⟨bw1,0,none⟩) ((wds a).length) (l) ((wds a).length) ((a+b)) (by first|rfl|assumption|(simp;done)|(simp;omega)|omega) (hW) (by rw[show cy=0 by omega,Nat.mul_zero,Nat.add_zero] at hE;exact hE) sM sM _ _ hs.g (hs.f.1)) ?_)
    rintro _ w29 h30 hs rfl
    refine lP 1 0 (nc (a+b)) hs (fun w31 hs=>?_)
    exact lN (CG.ret (hs.ret [(1,0,2)] (nv (a+b)) rfl))
   have phb23:=neOfBne hb23
   refine lB 75 hb23 ?_
   refine lN (cIT (CG.listed (lL hs [.m 76 7,.m 77 9] (lR 78 50 1 ([.int .u64 (cy:Nat)]) hs (fun b32 w33 h34 hs=>?_)))))
   refine lYe 79 1 ((wds a).length) b32 l u64c 0 cy 8 (.int .u64 0) hs (hs.f.1) oM oM (fun A36 c37 w38 h39 hs hcc41=>?_)
   replace hs:=hs.to [⟨bw2,50,(wds b).flatMap u64c⟩,⟨b7,52,[.int .u64 0,.string ⟨#[]⟩]⟩,⟨b4,52,nc b⟩,⟨b1,52,nc a⟩] []
   refine lL hs [.m 7 79] (lNS (lL hs [.m 80 7] (lC 81 hs (nFromE A36 c37 (l++[cy]) ((wds a).length+1) ((a+b)) (by first|rfl|assumption|(simp;done)|(simp;omega)|omega) (Dg.append hW (Dg.one oM)) (by show bval _ (l++[cy])=_;rw[bval_append];show _+_*(cy+_*0)=_;rw[Nat.mul_zero,Nat.add_zero];exact hE) sM sM _ _ hs.g (hs.f.1)) ?_)))
   rintro _ w42 h43 hs rfl
   refine lP 1 0 (nc (a+b)) hs (fun w44 hs=>?_)
   exact lN (CG.ret (hs.ret [(1,0,2)] (nv (a+b)) rfl))
  have phb22:=oT hb22
  refine lB 50 hb22 ?_
  refine lN (CG.seq (cIT (CG.skipN (CG.seq (CG.block (cSL (lL hs [.m 51 49,.m 10 51] (lNS (lL hs [.v 11 (.int .u64 0)] (lN (CG.seq (cSL (lL hs [.m 52 10,.m 53 8,.v 54 (.int .i64 ((wds b).length:Nat))] ?_)))))))))))))
  cases hb45:(decide (((i:Nat):Int)<(((wds b).length:Nat):Int)))
  ·
   have phb45:=oF hb45
   refine lB 55 hb45 ?_
   refine lN (cIF (CG.skipN (CG.listed (lL hs [.m 61 7,.m 62 10,.m 63 7,.m 64 10] (lX 65 (some ⟨bw1,0,none⟩) ((wds a).length) ((wds a).length) 1 (i:Nat) i rfl ?_)))))
   refine lQ 66 1 l u64c 1 0 i (.int .u64 ((l).getD i 0:Nat)) hs oM ?_
   refine lL hs [.m 67 11,.m 68 9] ?_
   obtain ⟨s46,c47,he48,hl49,hm50,hr51⟩:=bAdd64 ((l).getD i 0) 0 cy wM wM oM
   refine lV 69 (.tuple #[.int .u64 (s46:Nat),.int .u64 (c47:Nat)]) ?_ (hr:=opExt kR (hr51 _))
   refine lL hs [.m 60 69,.v 70 (.int .u64 (s46:Nat)),.v 71 (.int .u64 (c47:Nat))] (lX 72 (some ⟨bw1,0,none⟩) ((wds a).length) ((wds a).length) 1 (i:Nat) i rfl ?_)
   refine lW 1 l u64c 1 i s46 hs oM (fun w52 hs=>?_)
   have hl53:((l).set i s46).length=(wds a).length:=by rw[List.length_set];exact hll
   replace hs:=hs.to [⟨bw2,50,(wds b).flatMap u64c⟩,⟨bw1,50,((l).set i s46).flatMap u64c⟩,⟨b7,52,[.int .u64 0,.string ⟨#[]⟩]⟩,⟨b4,52,nc b⟩,⟨b1,52,nc a⟩] []
   refine lL hs [.m 9 71] (lN (CG.listed (lIn 73 ((i:Nat)+1) (i+1) ?_)))
   refine lL hs [.m 49 73] (lD ?_)
   intro a_ ka
   have q54:(i+1)≤(wds a).length:=by omega
   have q55:((l).set i s46).length=(wds a).length:=hl53
   have q56:Wd ((l).set i s46):=(hW.set _ oM)
   have q57:c47≤1:=oM
   have q58:bval 18446744073709551616 ((l).set i s46)+18446744073709551616^(i+1)*c47=a+bval 18446744073709551616 ((wds b:List Nat).take (i+1)):=(add_step oM inv (by first|omega|(have hy0:=getD_out (l:=(wds b:List Nat)) (k:=i) (by first|omega|(simp;done));omega)))
   refine ⟨_,_,?_,⟨i+1,(l).set i s46,c47,h20,rfl,rfl,hs.to _ _,q54,q55,q56,q57,q58⟩,ka.to [(4,.pointer (some ⟨b7,0,none⟩)),(7,.slice (some ⟨bw1,0,none⟩) ((wds a).length) ((wds a).length)),(8,.slice (some ⟨bw2,0,none⟩) ((wds b).length) ((wds b).length)),(48,.int .i64 ((wds a).length:Nat)),(49,.int .i64 ((i+1):Nat)),(9,.int .u64 (c47:Nat))] kR⟩
   omega
  have phb45:=oT hb45
  refine lB 55 hb45 ?_
  refine lN (cIT (CG.listed (lL hs [.m 56 8,.m 57 10] (lX 58 (some ⟨bw2,0,none⟩) ((wds b).length) ((wds b).length) 1 (i:Nat) i rfl ?_))))
  refine lQ 59 0 (wds b) u64c 1 0 i (.int .u64 ((wds b).getD i 0:Nat)) hs oM ?_
  refine lL hs [.m 11 59] (lN (CG.listed (lL hs [.m 61 7,.m 62 10,.m 63 7,.m 64 10] (lX 65 (some ⟨bw1,0,none⟩) ((wds a).length) ((wds a).length) 1 (i:Nat) i rfl ?_))))
  refine lQ 66 1 l u64c 1 0 i (.int .u64 ((l).getD i 0:Nat)) hs oM ?_
  refine lL hs [.m 67 11,.m 68 9] ?_
  obtain ⟨s59,c60,he61,hl62,hm63,hr64⟩:=bAdd64 ((l).getD i 0) ((wds b).getD i 0) cy wM wM oM
  refine lV 69 (.tuple #[.int .u64 (s59:Nat),.int .u64 (c60:Nat)]) ?_ (hr:=opExt kR (hr64 _))
  refine lL hs [.m 60 69,.v 70 (.int .u64 (s59:Nat)),.v 71 (.int .u64 (c60:Nat))] (lX 72 (some ⟨bw1,0,none⟩) ((wds a).length) ((wds a).length) 1 (i:Nat) i rfl ?_)
  refine lW 1 l u64c 1 i s59 hs oM (fun w65 hs=>?_)
  have hl66:((l).set i s59).length=(wds a).length:=by rw[List.length_set];exact hll
  replace hs:=hs.to [⟨bw2,50,(wds b).flatMap u64c⟩,⟨bw1,50,((l).set i s59).flatMap u64c⟩,⟨b7,52,[.int .u64 0,.string ⟨#[]⟩]⟩,⟨b4,52,nc b⟩,⟨b1,52,nc a⟩] []
  refine lL hs [.m 9 71] (lN (CG.listed (lIn 73 ((i:Nat)+1) (i+1) ?_)))
  refine lL hs [.m 49 73] (lD ?_)
  intro a_ ka
  have q67:(i+1)≤(wds a).length:=by omega
  have q68:((l).set i s59).length=(wds a).length:=hl66
  have q69:Wd ((l).set i s59):=(hW.set _ oM)
  have q70:c60≤1:=oM
  have q71:bval 18446744073709551616 ((l).set i s59)+18446744073709551616^(i+1)*c60=a+bval 18446744073709551616 ((wds b:List Nat).take (i+1)):=(add_step oM inv (by first|omega|(have hy0:=getD_out (l:=(wds b:List Nat)) (k:=i) (by first|omega|(simp;done));omega)))
  refine ⟨_,_,?_,⟨i+1,(l).set i s59,c60,h20,rfl,rfl,hs.to _ _,q67,q68,q69,q70,q71⟩,ka.to [(4,.pointer (some ⟨b7,0,none⟩)),(7,.slice (some ⟨bw1,0,none⟩) ((wds a).length) ((wds a).length)),(8,.slice (some ⟨bw2,0,none⟩) ((wds b).length) ((wds b).length)),(48,.int .i64 ((wds a).length:Nat)),(49,.int .i64 ((i+1):Nat)),(9,.int .u64 (c60:Nat))] kR⟩
  omega
 have phb18:=oT hb18
 refine lB 44 hb18 ?_
 refine lN (cIT (CG.listed (lL hs [.m 45 8,.m 46 7,.m 7 45,.m 8 46] (lNS (lL hs [.v 9 (.int .u64 0)] (lN (CG.seq (cSL (lL hs [.m 47 7,.v 48 (.int .i64 ((wds b).length:Nat)),.v 49 (.int .i64 0)] (lN (CG.block (cTo [(4,.pointer (some ⟨b7,0,none⟩)),(7,.slice (some ⟨bw2,0,none⟩) ((wds b).length) ((wds b).length)),(8,.slice (some ⟨bw1,0,none⟩) ((wds a).length) ((wds a).length)),(48,.int .i64 ((wds b).length:Nat)),(49,.int .i64 0),(9,.int .u64 0)] ?_))))))))))))
 refine CG.loop (fun μ_ Γ w_=>∃ (i:Nat) (l:List Nat) (cy:Nat) (h_:Hp),μ_=(wds b).length-i∧Γ=[(4,.pointer (some ⟨b7,0,none⟩)),(7,.slice (some ⟨bw2,0,none⟩) ((wds b).length) ((wds b).length)),(8,.slice (some ⟨bw1,0,none⟩) ((wds a).length) ((wds a).length)),(48,.int .i64 ((wds b).length:Nat)),(49,.int .i64 (i:Nat)),(9,.int .u64 (cy:Nat))]∧SS w h w_ h_ [⟨bw2,50,(l).flatMap u64c⟩,⟨bw1,50,(wds a).flatMap u64c⟩,⟨b7,52,[.int .u64 0,.string ⟨#[]⟩]⟩,⟨b4,52,nc b⟩,⟨b1,52,nc a⟩] [] []∧(i≤(wds b).length)∧(l.length=(wds b).length)∧(Wd l)∧(cy≤1)∧(bval 18446744073709551616 l+18446744073709551616^i*cy=b+bval 18446744073709551616 ((wds a:List Nat).take i))) _ ⟨0,wds b,0,h17,rfl,rfl,hs.to _ _,Nat.zero_le _,rfl,Wd.wds _,oM,(by have hx_:bval 18446744073709551616 (wds b)=b:=wval_wds _;rw[hx_];simp[bval])⟩ ?_
 rintro _ _ w72 ⟨i,l,cy,h73,hm74,rfl,hs,hi,hll,hW,hcy,inv⟩
 have hlk:=hW.get i
 have hyk:=(Wd.wds a).get i
 refine cSL ?_
 cases hb75:(decide (((i:Nat):Int)<(((wds b).length:Nat):Int)))
 ·
  have phb75:=oF hb75
  refine lB 50 hb75 ?_
  refine lN (CG.seq (cIF (CG.exit ?_)))
  show CG _ _ _ _ _ _ _ _
  refine CG.seq (cSL ?_)
  have hE:=inv
  rw[List.take_of_length_le (show (wds a).length≤i by first|omega|(simp;done)|(simp;omega))] at hE
  rw[show i=l.length by omega] at hE
  have hE_:bval 18446744073709551616 (wds a)=a:=wval_wds _
  replace hE:bval 18446744073709551616 l+18446744073709551616^l.length*cy=(a+b):=by rw[hE,hE_];first|done|omega
  refine lL hs [.m 74 9] ?_
  cases hb76:(((cy:Nat):Int) != (0:Int))
  ·
   have phb76:=eqOfBne hb76
   refine lB 75 hb76 ?_
   refine lN (cIF (CG.skipN (cSL ?_)))
   obtain ⟨h77,hs,sg78,lo79,bc80⟩:=hs.pub 0
   replace hs:=(hs.to [⟨bw1,50,(wds a).flatMap u64c⟩,⟨b7,52,[.int .u64 0,.string ⟨#[]⟩]⟩,⟨b4,52,nc b⟩,⟨b1,52,nc a⟩] []).a_SlO (SlO.of_flat (sz:=1) (f:=u64c) (d:=0) (b:=bw2) (o:=0) (l:=l) (fun _=>rfl) sg78)
   refine lL hs [.m 80 7] (lC 81 hs (nFromE (some ⟨bw2,0,none⟩) ((wds b).length) (l) ((wds b).length) ((a+b)) (by first|rfl|assumption|(simp;done)|(simp;omega)|omega) (hW) (by rw[show cy=0 by omega,Nat.mul_zero,Nat.add_zero] at hE;exact hE) sM sM _ _ hs.g (hs.f.1)) ?_)
   rintro _ w82 h83 hs rfl
   refine lP 1 0 (nc (a+b)) hs (fun w84 hs=>?_)
   exact lN (CG.ret (hs.ret [(1,0,2)] (nv (a+b)) rfl))
  have phb76:=neOfBne hb76
  refine lB 75 hb76 ?_
  refine lN (cIT (CG.listed (lL hs [.m 76 7,.m 77 9] (lR 78 50 1 ([.int .u64 (cy:Nat)]) hs (fun b85 w86 h87 hs=>?_)))))
  refine lYe 79 0 ((wds b).length) b85 l u64c 0 cy 8 (.int .u64 0) hs (hs.f.1) oM oM (fun A89 c90 w91 h92 hs hcc94=>?_)
  replace hs:=hs.to [⟨bw1,50,(wds a).flatMap u64c⟩,⟨b7,52,[.int .u64 0,.string ⟨#[]⟩]⟩,⟨b4,52,nc b⟩,⟨b1,52,nc a⟩] []
  refine lL hs [.m 7 79] (lNS (lL hs [.m 80 7] (lC 81 hs (nFromE A89 c90 (l++[cy]) ((wds b).length+1) ((a+b)) (by first|rfl|assumption|(simp;done)|(simp;omega)|omega) (Dg.append hW (Dg.one oM)) (by show bval _ (l++[cy])=_;rw[bval_append];show _+_*(cy+_*0)=_;rw[Nat.mul_zero,Nat.add_zero];exact hE) sM sM _ _ hs.g (hs.f.1)) ?_)))
  rintro _ w95 h96 hs rfl
  refine lP 1 0 (nc (a+b)) hs (fun w97 hs=>?_)
  exact lN (CG.ret (hs.ret [(1,0,2)] (nv (a+b)) rfl))
 have phb75:=oT hb75
 refine lB 50 hb75 ?_
 refine lN (CG.seq (cIT (CG.skipN (CG.seq (CG.block (cSL (lL hs [.m 51 49,.m 10 51] (lNS (lL hs [.v 11 (.int .u64 0)] (lN (CG.seq (cSL (lL hs [.m 52 10,.m 53 8,.v 54 (.int .i64 ((wds a).length:Nat))] ?_)))))))))))))
 cases hb98:(decide (((i:Nat):Int)<(((wds a).length:Nat):Int)))
 ·
  have phb98:=oF hb98
  refine lB 55 hb98 ?_
  refine lN (cIF (CG.skipN (CG.listed (lL hs [.m 61 7,.m 62 10,.m 63 7,.m 64 10] (lX 65 (some ⟨bw2,0,none⟩) ((wds b).length) ((wds b).length) 1 (i:Nat) i rfl ?_)))))
  refine lQ 66 0 l u64c 1 0 i (.int .u64 ((l).getD i 0:Nat)) hs oM ?_
  refine lL hs [.m 67 11,.m 68 9] ?_
  obtain ⟨s99,c100,he101,hl102,hm103,hr104⟩:=bAdd64 ((l).getD i 0) 0 cy wM wM oM
  refine lV 69 (.tuple #[.int .u64 (s99:Nat),.int .u64 (c100:Nat)]) ?_ (hr:=opExt kR (hr104 _))
  refine lL hs [.m 60 69,.v 70 (.int .u64 (s99:Nat)),.v 71 (.int .u64 (c100:Nat))] (lX 72 (some ⟨bw2,0,none⟩) ((wds b).length) ((wds b).length) 1 (i:Nat) i rfl ?_)
  refine lW 0 l u64c 1 i s99 hs oM (fun w105 hs=>?_)
  have hl106:((l).set i s99).length=(wds b).length:=by rw[List.length_set];exact hll
  replace hs:=hs.to [⟨bw2,50,((l).set i s99).flatMap u64c⟩,⟨bw1,50,(wds a).flatMap u64c⟩,⟨b7,52,[.int .u64 0,.string ⟨#[]⟩]⟩,⟨b4,52,nc b⟩,⟨b1,52,nc a⟩] []
  refine lL hs [.m 9 71] (lN (CG.listed (lIn 73 ((i:Nat)+1) (i+1) ?_)))
  refine lL hs [.m 49 73] (lD ?_)
  intro a_ ka
  have q107:(i+1)≤(wds b).length:=by omega
  have q108:((l).set i s99).length=(wds b).length:=hl106
  have q109:Wd ((l).set i s99):=(hW.set _ oM)
  have q110:c100≤1:=oM
  have q111:bval 18446744073709551616 ((l).set i s99)+18446744073709551616^(i+1)*c100=b+bval 18446744073709551616 ((wds a:List Nat).take (i+1)):=(add_step oM inv (by first|omega|(have hy0:=getD_out (l:=(wds a:List Nat)) (k:=i) (by first|omega|(simp;done));omega)))
  refine ⟨_,_,?_,⟨i+1,(l).set i s99,c100,h73,rfl,rfl,hs.to _ _,q107,q108,q109,q110,q111⟩,ka.to [(4,.pointer (some ⟨b7,0,none⟩)),(7,.slice (some ⟨bw2,0,none⟩) ((wds b).length) ((wds b).length)),(8,.slice (some ⟨bw1,0,none⟩) ((wds a).length) ((wds a).length)),(48,.int .i64 ((wds b).length:Nat)),(49,.int .i64 ((i+1):Nat)),(9,.int .u64 (c100:Nat))] kR⟩
  omega
 have phb98:=oT hb98
 refine lB 55 hb98 ?_
 refine lN (cIT (CG.listed (lL hs [.m 56 8,.m 57 10] (lX 58 (some ⟨bw1,0,none⟩) ((wds a).length) ((wds a).length) 1 (i:Nat) i rfl ?_))))
 refine lQ 59 1 (wds a) u64c 1 0 i (.int .u64 ((wds a).getD i 0:Nat)) hs oM ?_
 refine lL hs [.m 11 59] (lN (CG.listed (lL hs [.m 61 7,.m 62 10,.m 63 7,.m 64 10] (lX 65 (some ⟨bw2,0,none⟩) ((wds b).length) ((wds b).length) 1 (i:Nat) i rfl ?_))))
 refine lQ 66 0 l u64c 1 0 i (.int .u64 ((l).getD i 0:Nat)) hs oM ?_
 refine lL hs [.m 67 11,.m 68 9] ?_
 obtain ⟨s112,c113,he114,hl115,hm116,hr117⟩:=bAdd64 ((l).getD i 0) ((wds a).getD i 0) cy wM wM oM
 refine lV 69 (.tuple #[.int .u64 (s112:Nat),.int .u64 (c113:Nat)]) ?_ (hr:=opExt kR (hr117 _))
 refine lL hs [.m 60 69,.v 70 (.int .u64 (s112:Nat)),.v 71 (.int .u64 (c113:Nat))] (lX 72 (some ⟨bw2,0,none⟩) ((wds b).length) ((wds b).length) 1 (i:Nat) i rfl ?_)
 refine lW 0 l u64c 1 i s112 hs oM (fun w118 hs=>?_)
 have hl119:((l).set i s112).length=(wds b).length:=by rw[List.length_set];exact hll
 replace hs:=hs.to [⟨bw2,50,((l).set i s112).flatMap u64c⟩,⟨bw1,50,(wds a).flatMap u64c⟩,⟨b7,52,[.int .u64 0,.string ⟨#[]⟩]⟩,⟨b4,52,nc b⟩,⟨b1,52,nc a⟩] []
 refine lL hs [.m 9 71] (lN (CG.listed (lIn 73 ((i:Nat)+1) (i+1) ?_)))
 refine lL hs [.m 49 73] (lD ?_)
 intro a_ ka
 have q120:(i+1)≤(wds b).length:=by omega
 have q121:((l).set i s112).length=(wds b).length:=hl119
 have q122:Wd ((l).set i s112):=(hW.set _ oM)
 have q123:c113≤1:=oM
 have q124:bval 18446744073709551616 ((l).set i s112)+18446744073709551616^(i+1)*c113=b+bval 18446744073709551616 ((wds a:List Nat).take (i+1)):=(add_step oM inv (by first|omega|(have hy0:=getD_out (l:=(wds a:List Nat)) (k:=i) (by first|omega|(simp;done));omega)))
 refine ⟨_,_,?_,⟨i+1,(l).set i s112,c113,h73,rfl,rfl,hs.to _ _,q120,q121,q122,q123,q124⟩,ka.to [(4,.pointer (some ⟨b7,0,none⟩)),(7,.slice (some ⟨bw2,0,none⟩) ((wds b).length) ((wds b).length)),(8,.slice (some ⟨bw1,0,none⟩) ((wds a).length) ((wds a).length)),(48,.int .i64 ((wds b).length:Nat)),(49,.int .i64 ((i+1):Nat)),(9,.int .u64 (c113:Nat))] kR⟩
 omega
theorem nAddR (a b:Nat)(hla:(wds a).length≤1000000000)(hlb:(wds b).length≤1000000000)(has:a<18446744073709551616)(ha0:0<a)(hbs:18446744073709551616≤b)(w:World)(h:Hp)(g:G w h) :
    Calls Tryz.prog 100 #[nv a,nv b] w (Ret w h fun v _=>v=nv (a+b)):=by
 have hs:=SS.start g
 refine go Tryz.func100 [(0,nv a),(1,nv b)] rfl ?_
 refine cSL (lA 2 52 (nc a) hs (fun b1 w2 h3 hs=>?_))
 refine lA 3 52 (nc b) hs (fun b4 w5 h6 hs=>?_)
 refine lA 4 52 ([.int .u64 0,.string ⟨#[]⟩]) hs (fun b7 w8 h9 hs=>?_)
 refine lN (CG.seq (cSL (lL hs [.v 12 (.pointer (some ⟨b1,1,none⟩)),.o 13 (.string (hi a)) 2 1 1] (lV 14 (.bool true) ?_ (hr:=rb kR (strE (hi_nil has)))))))
 refine lL hs [.m 15 14,.v 16 (.pointer (some ⟨b4,1,none⟩)),.o 17 (.string (hi b)) 1 1 1] (lV 18 (.bool false) ?_ (hr:=rb kR (strN (hi_ne hbs))))
 refine lL hs [.v 19 (.bool false)] (lN (cIF (CG.skipN (CG.seq ?_))))
 obtain ⟨K_,hK_⟩:∃ K_,K_=w8.heap.size:=⟨_,rfl⟩
 have hk_b7:b7<K_:=by rw[hK_];exact zblk hs 0
 have hk_b4:b4<K_:=by rw[hK_];exact zblk hs 1
 have hk_b1:b1<K_:=by rw[hK_];exact zblk hs 2
 refine cRa ⟨[],some (K_,[])⟩ 0 mixed ?_
 have hszK:=hs.g.size
 replace hs:=hs.drew
 have hKl:=Nat.le_of_eq hK_
 refine zO 0 36 [(2,0,2)] (nv a) rfl hKl hs (fun p hp=>by obtain rfl:=List.mem_singleton.1 hp;exact hk_b1) ?_
 refine zO 2 38 [(1,0,2)] (nv b) rfl hKl hs (fun p hp=>by obtain rfl:=List.mem_singleton.1 hp;exact hk_b4) ?_
 refine zCu 1 37 (nWords a oM oM _ _ hs.g) rfl hKl ?_
 rintro _ w10 h11 u12 hKl ⟨bw1,rfl,hlo1,hbc1,hsl1⟩
 obtain ⟨h13,hs,-,-⟩:=hs.take u12 hlo1 hbc1
 replace hs:=hs.to [⟨bw1,50,(wds a).flatMap u64c⟩,⟨b7,52,[.int .u64 0,.string ⟨#[]⟩]⟩,⟨b4,52,nc b⟩,⟨b1,52,nc a⟩] []
 refine zCu 3 39 (nWords b oM oM _ _ hs.g) rfl hKl ?_
 rintro _ w14 h15 u16 hKl ⟨bw2,rfl,hlo2,hbc2,hsl2⟩
 obtain ⟨h17,hs,-,-⟩:=hs.take u16 hlo2 hbc2
 replace hs:=hs.to [⟨bw2,50,(wds b).flatMap u64c⟩,⟨bw1,50,(wds a).flatMap u64c⟩,⟨b7,52,[.int .u64 0,.string ⟨#[]⟩]⟩,⟨b4,52,nc b⟩,⟨b1,52,nc a⟩] []
 refine zV 4 7 (.slice (some ⟨bw1,0,none⟩) ((wds a).length) ((wds a).length)) ?_
 refine zV 5 8 (.slice (some ⟨bw2,0,none⟩) ((wds b).length) ((wds b).length)) ?_
 refine tN (CG.seq (cSL (lL hs [.m 40 7,.v 41 (.int .i64 ((wds a).length:Nat)),.m 42 8,.v 43 (.int .i64 ((wds b).length:Nat))] ?_)))
 cases hb18:(decide ((((wds a).length:Nat):Int)<(((wds b).length:Nat):Int)))
 ·
  have phb18:=oF hb18
  refine lB 44 hb18 ?_
  refine lN (cIF (CG.skipN (cSL (lL hs [.v 9 (.int .u64 0)] (lN (CG.seq (cSL (lL hs [.m 47 7,.v 48 (.int .i64 ((wds a).length:Nat)),.v 49 (.int .i64 0)] (lN (CG.block (cTo [(4,.pointer (some ⟨b7,0,none⟩)),(7,.slice (some ⟨bw1,0,none⟩) ((wds a).length) ((wds a).length)),(8,.slice (some ⟨bw2,0,none⟩) ((wds b).length) ((wds b).length)),(48,.int .i64 ((wds a).length:Nat)),(49,.int .i64 0),(9,.int .u64 0)] ?_)))))))))))
  refine CG.loop (fun μ_ Γ w_=>∃ (i:Nat) (l:List Nat) (cy:Nat) (h_:Hp),μ_=(wds a).length-i∧Γ=[(4,.pointer (some ⟨b7,0,none⟩)),(7,.slice (some ⟨bw1,0,none⟩) ((wds a).length) ((wds a).length)),(8,.slice (some ⟨bw2,0,none⟩) ((wds b).length) ((wds b).length)),(48,.int .i64 ((wds a).length:Nat)),(49,.int .i64 (i:Nat)),(9,.int .u64 (cy:Nat))]∧SS w h w_ h_ [⟨bw2,50,(wds b).flatMap u64c⟩,⟨bw1,50,(l).flatMap u64c⟩,⟨b7,52,[.int .u64 0,.string ⟨#[]⟩]⟩,⟨b4,52,nc b⟩,⟨b1,52,nc a⟩] [] []∧(i≤(wds a).length)∧(l.length=(wds a).length)∧(Wd l)∧(cy≤1)∧(bval 18446744073709551616 l+18446744073709551616^i*cy=a+bval 18446744073709551616 ((wds b:List Nat).take i))) _ ⟨0,wds a,0,h17,rfl,rfl,hs.to _ _,Nat.zero_le _,rfl,Wd.wds _,oM,(by have hx_:bval 18446744073709551616 (wds a)=a:=wval_wds _;rw[hx_];simp[bval])⟩ ?_
  rintro _ _ w19 ⟨i,l,cy,h20,hm21,rfl,hs,hi,hll,hW,hcy,inv⟩
  have hlk:=hW.get i
  have hyk:=(Wd.wds b).get i
  refine cSL ?_
  cases hb22:(decide (((i:Nat):Int)<(((wds a).length:Nat):Int)))
  ·
   have phb22:=oF hb22
   refine lB 50 hb22 ?_
   refine lN (CG.seq (cIF (CG.exit ?_)))
   show CG _ _ _ _ _ _ _ _
   refine CG.seq (cSL ?_)
   have hE:=inv
   rw[List.take_of_length_le (show (wds b).length≤i by first|omega|(simp;done)|(simp;omega))] at hE
   rw[show i=l.length by omega] at hE
   have hE_:bval 18446744073709551616 (wds b)=b:=wval_wds _
   replace hE:bval 18446744073709551616 l+18446744073709551616^l.length*cy=(a+b):=by rw[hE,hE_];first|done|omega
   refine lL hs [.m 74 9] ?_
   cases hb23:(((cy:Nat):Int) != (0:Int))
   ·
    have phb23:=eqOfBne hb23
    refine lB 75 hb23 ?_
    refine lN (cIF (CG.skipN (cSL ?_)))
    obtain ⟨h24,hs,sg25,lo26,bc27⟩:=hs.pub 1
    replace hs:=(hs.to [⟨bw2,50,(wds b).flatMap u64c⟩,⟨b7,52,[.int .u64 0,.string ⟨#[]⟩]⟩,⟨b4,52,nc b⟩,⟨b1,52,nc a⟩] []).a_SlO (SlO.of_flat (sz:=1) (f:=u64c) (d:=0) (b:=bw1) (o:=0) (l:=l) (fun _=>rfl) sg25)
    refine lL hs [.m 80 7] (lC 81 hs (nFromE (some ⟨bw1,0,none⟩) ((wds a).length) (l) ((wds a).length) ((a+b)) (by first|rfl|assumption|(simp;done)|(simp;omega)|omega) (hW) (by rw[show cy=0 by omega,Nat.mul_zero,Nat.add_zero] at hE;exact hE) sM sM _ _ hs.g (hs.f.1)) ?_)
    rintro _ w29 h30 hs rfl
    refine lP 1 0 (nc (a+b)) hs (fun w31 hs=>?_)
    exact lN (CG.ret (hs.ret [(1,0,2)] (nv (a+b)) rfl))
   have phb23:=neOfBne hb23
   refine lB 75 hb23 ?_
   refine lN (cIT (CG.listed (lL hs [.m 76 7,.m 77 9] (lR 78 50 1 ([.int .u64 (cy:Nat)]) hs (fun b32 w33 h34 hs=>?_)))))
   refine lYe 79 1 ((wds a).length) b32 l u64c 0 cy 8 (.int .u64 0) hs (hs.f.1) oM oM (fun A36 c37 w38 h39 hs hcc41=>?_)
   replace hs:=hs.to [⟨bw2,50,(wds b).flatMap u64c⟩,⟨b7,52,[.int .u64 0,.string ⟨#[]⟩]⟩,⟨b4,52,nc b⟩,⟨b1,52,nc a⟩] []
   refine lL hs [.m 7 79] (lNS (lL hs [.m 80 7] (lC 81 hs (nFromE A36 c37 (l++[cy]) ((wds a).length+1) ((a+b)) (by first|rfl|assumption|(simp;done)|(simp;omega)|omega) (Dg.append hW (Dg.one oM)) (by show bval _ (l++[cy])=_;rw[bval_append];show _+_*(cy+_*0)=_;rw[Nat.mul_zero,Nat.add_zero];exact hE) sM sM _ _ hs.g (hs.f.1)) ?_)))
   rintro _ w42 h43 hs rfl
   refine lP 1 0 (nc (a+b)) hs (fun w44 hs=>?_)
   exact lN (CG.ret (hs.ret [(1,0,2)] (nv (a+b)) rfl))
  have phb22:=oT hb22
  refine lB 50 hb22 ?_
  refine lN (CG.seq (cIT (CG.skipN (CG.seq (CG.block (cSL (lL hs [.m 51 49,.m 10 51] (lNS (lL hs [.v 11 (.int .u64 0)] (lN (CG.seq (cSL (lL hs [.m 52 10,.m 53 8,.v 54 (.int .i64 ((wds b).length:Nat))] ?_)))))))))))))
  cases hb45:(decide (((i:Nat):Int)<(((wds b).length:Nat):Int)))
  ·
   have phb45:=oF hb45
   refine lB 55 hb45 ?_
   refine lN (cIF (CG.skipN (CG.listed (lL hs [.m 61 7,.m 62 10,.m 63 7,.m 64 10] (lX 65 (some ⟨bw1,0,none⟩) ((wds a).length) ((wds a).length) 1 (i:Nat) i rfl ?_)))))
   refine lQ 66 1 l u64c 1 0 i (.int .u64 ((l).getD i 0:Nat)) hs oM ?_
   refine lL hs [.m 67 11,.m 68 9] ?_
   obtain ⟨s46,c47,he48,hl49,hm50,hr51⟩:=bAdd64 ((l).getD i 0) 0 cy wM wM oM
   refine lV 69 (.tuple #[.int .u64 (s46:Nat),.int .u64 (c47:Nat)]) ?_ (hr:=opExt kR (hr51 _))
   refine lL hs [.m 60 69,.v 70 (.int .u64 (s46:Nat)),.v 71 (.int .u64 (c47:Nat))] (lX 72 (some ⟨bw1,0,none⟩) ((wds a).length) ((wds a).length) 1 (i:Nat) i rfl ?_)
   refine lW 1 l u64c 1 i s46 hs oM (fun w52 hs=>?_)
   have hl53:((l).set i s46).length=(wds a).length:=by rw[List.length_set];exact hll
   replace hs:=hs.to [⟨bw2,50,(wds b).flatMap u64c⟩,⟨bw1,50,((l).set i s46).flatMap u64c⟩,⟨b7,52,[.int .u64 0,.string ⟨#[]⟩]⟩,⟨b4,52,nc b⟩,⟨b1,52,nc a⟩] []
   refine lL hs [.m 9 71] (lN (CG.listed (lIn 73 ((i:Nat)+1) (i+1) ?_)))
   refine lL hs [.m 49 73] (lD ?_)
   intro a_ ka
   have q54:(i+1)≤(wds a).length:=by omega
   have q55:((l).set i s46).length=(wds a).length:=hl53
   have q56:Wd ((l).set i s46):=(hW.set _ oM)
   have q57:c47≤1:=oM
   have q58:bval 18446744073709551616 ((l).set i s46)+18446744073709551616^(i+1)*c47=a+bval 18446744073709551616 ((wds b:List Nat).take (i+1)):=(add_step oM inv (by first|omega|(have hy0:=getD_out (l:=(wds b:List Nat)) (k:=i) (by first|omega|(simp;done));omega)))
   refine ⟨_,_,?_,⟨i+1,(l).set i s46,c47,h20,rfl,rfl,hs.to _ _,q54,q55,q56,q57,q58⟩,ka.to [(4,.pointer (some ⟨b7,0,none⟩)),(7,.slice (some ⟨bw1,0,none⟩) ((wds a).length) ((wds a).length)),(8,.slice (some ⟨bw2,0,none⟩) ((wds b).length) ((wds b).length)),(48,.int .i64 ((wds a).length:Nat)),(49,.int .i64 ((i+1):Nat)),(9,.int .u64 (c47:Nat))] kR⟩
   omega
  have phb45:=oT hb45
  refine lB 55 hb45 ?_
  refine lN (cIT (CG.listed (lL hs [.m 56 8,.m 57 10] (lX 58 (some ⟨bw2,0,none⟩) ((wds b).length) ((wds b).length) 1 (i:Nat) i rfl ?_))))
  refine lQ 59 0 (wds b) u64c 1 0 i (.int .u64 ((wds b).getD i 0:Nat)) hs oM ?_
  refine lL hs [.m 11 59] (lN (CG.listed (lL hs [.m 61 7,.m 62 10,.m 63 7,.m 64 10] (lX 65 (some ⟨bw1,0,none⟩) ((wds a).length) ((wds a).length) 1 (i:Nat) i rfl ?_))))
  refine lQ 66 1 l u64c 1 0 i (.int .u64 ((l).getD i 0:Nat)) hs oM ?_
  refine lL hs [.m 67 11,.m 68 9] ?_
  obtain ⟨s59,c60,he61,hl62,hm63,hr64⟩:=bAdd64 ((l).getD i 0) ((wds b).getD i 0) cy wM wM oM
  refine lV 69 (.tuple #[.int .u64 (s59:Nat),.int .u64 (c60:Nat)]) ?_ (hr:=opExt kR (hr64 _))
  refine lL hs [.m 60 69,.v 70 (.int .u64 (s59:Nat)),.v 71 (.int .u64 (c60:Nat))] (lX 72 (some ⟨bw1,0,none⟩) ((wds a).length) ((wds a).length) 1 (i:Nat) i rfl ?_)
  refine lW 1 l u64c 1 i s59 hs oM (fun w65 hs=>?_)
  have hl66:((l).set i s59).length=(wds a).length:=by rw[List.length_set];exact hll
  replace hs:=hs.to [⟨bw2,50,(wds b).flatMap u64c⟩,⟨bw1,50,((l).set i s59).flatMap u64c⟩,⟨b7,52,[.int .u64 0,.string ⟨#[]⟩]⟩,⟨b4,52,nc b⟩,⟨b1,52,nc a⟩] []
  refine lL hs [.m 9 71] (lN (CG.listed (lIn 73 ((i:Nat)+1) (i+1) ?_)))
  refine lL hs [.m 49 73] (lD ?_)
  intro a_ ka
  have q67:(i+1)≤(wds a).length:=by omega
  have q68:((l).set i s59).length=(wds a).length:=hl66
  have q69:Wd ((l).set i s59):=(hW.set _ oM)
  have q70:c60≤1:=oM
  have q71:bval 18446744073709551616 ((l).set i s59)+18446744073709551616^(i+1)*c60=a+bval 18446744073709551616 ((wds b:List Nat).take (i+1)):=(add_step oM inv (by first|omega|(have hy0:=getD_out (l:=(wds b:List Nat)) (k:=i) (by first|omega|(simp;done));omega)))
  refine ⟨_,_,?_,⟨i+1,(l).set i s59,c60,h20,rfl,rfl,hs.to _ _,q67,q68,q69,q70,q71⟩,ka.to [(4,.pointer (some ⟨b7,0,none⟩)),(7,.slice (some ⟨bw1,0,none⟩) ((wds a).length) ((wds a).length)),(8,.slice (some ⟨bw2,0,none⟩) ((wds b).length) ((wds b).length)),(48,.int .i64 ((wds a).length:Nat)),(49,.int .i64 ((i+1):Nat)),(9,.int .u64 (c60:Nat))] kR⟩
  omega
 have phb18:=oT hb18
 refine lB 44 hb18 ?_
 refine lN (cIT (CG.listed (lL hs [.m 45 8,.m 46 7,.m 7 45,.m 8 46] (lNS (lL hs [.v 9 (.int .u64 0)] (lN (CG.seq (cSL (lL hs [.m 47 7,.v 48 (.int .i64 ((wds b).length:Nat)),.v 49 (.int .i64 0)] (lN (CG.block (cTo [(4,.pointer (some ⟨b7,0,none⟩)),(7,.slice (some ⟨bw2,0,none⟩) ((wds b).length) ((wds b).length)),(8,.slice (some ⟨bw1,0,none⟩) ((wds a).length) ((wds a).length)),(48,.int .i64 ((wds b).length:Nat)),(49,.int .i64 0),(9,.int .u64 0)] ?_))))))))))))
 refine CG.loop (fun μ_ Γ w_=>∃ (i:Nat) (l:List Nat) (cy:Nat) (h_:Hp),μ_=(wds b).length-i∧Γ=[(4,.pointer (some ⟨b7,0,none⟩)),(7,.slice (some ⟨bw2,0,none⟩) ((wds b).length) ((wds b).length)),(8,.slice (some ⟨bw1,0,none⟩) ((wds a).length) ((wds a).length)),(48,.int .i64 ((wds b).length:Nat)),(49,.int .i64 (i:Nat)),(9,.int .u64 (cy:Nat))]∧SS w h w_ h_ [⟨bw2,50,(l).flatMap u64c⟩,⟨bw1,50,(wds a).flatMap u64c⟩,⟨b7,52,[.int .u64 0,.string ⟨#[]⟩]⟩,⟨b4,52,nc b⟩,⟨b1,52,nc a⟩] [] []∧(i≤(wds b).length)∧(l.length=(wds b).length)∧(Wd l)∧(cy≤1)∧(bval 18446744073709551616 l+18446744073709551616^i*cy=b+bval 18446744073709551616 ((wds a:List Nat).take i))) _ ⟨0,wds b,0,h17,rfl,rfl,hs.to _ _,Nat.zero_le _,rfl,Wd.wds _,oM,(by have hx_:bval 18446744073709551616 (wds b)=b:=wval_wds _;rw[hx_];simp[bval])⟩ ?_
 rintro _ _ w72 ⟨i,l,cy,h73,hm74,rfl,hs,hi,hll,hW,hcy,inv⟩
 have hlk:=hW.get i
 have hyk:=(Wd.wds a).get i
 refine cSL ?_
 cases hb75:(decide (((i:Nat):Int)<(((wds b).length:Nat):Int)))
 ·
  have phb75:=oF hb75
  refine lB 50 hb75 ?_
  refine lN (CG.seq (cIF (CG.exit ?_)))
  show CG _ _ _ _ _ _ _ _
  refine CG.seq (cSL ?_)
  have hE:=inv
  rw[List.take_of_length_le (show (wds a).length≤i by first|omega|(simp;done)|(simp;omega))] at hE
  rw[show i=l.length by omega] at hE
  have hE_:bval 18446744073709551616 (wds a)=a:=wval_wds _
  replace hE:bval 18446744073709551616 l+18446744073709551616^l.length*cy=(a+b):=by rw[hE,hE_];first|done|omega
  refine lL hs [.m 74 9] ?_
  cases hb76:(((cy:Nat):Int) != (0:Int))
  ·
   have phb76:=eqOfBne hb76
   refine lB 75 hb76 ?_
   refine lN (cIF (CG.skipN (cSL ?_)))
   obtain ⟨h77,hs,sg78,lo79,bc80⟩:=hs.pub 0
   replace hs:=(hs.to [⟨bw1,50,(wds a).flatMap u64c⟩,⟨b7,52,[.int .u64 0,.string ⟨#[]⟩]⟩,⟨b4,52,nc b⟩,⟨b1,52,nc a⟩] []).a_SlO (SlO.of_flat (sz:=1) (f:=u64c) (d:=0) (b:=bw2) (o:=0) (l:=l) (fun _=>rfl) sg78)
   refine lL hs [.m 80 7] (lC 81 hs (nFromE (some ⟨bw2,0,none⟩) ((wds b).length) (l) ((wds b).length) ((a+b)) (by first|rfl|assumption|(simp;done)|(simp;omega)|omega) (hW) (by rw[show cy=0 by omega,Nat.mul_zero,Nat.add_zero] at hE;exact hE) sM sM _ _ hs.g (hs.f.1)) ?_)
   rintro _ w82 h83 hs rfl
   refine lP 1 0 (nc (a+b)) hs (fun w84 hs=>?_)
   exact lN (CG.ret (hs.ret [(1,0,2)] (nv (a+b)) rfl))
  have phb76:=neOfBne hb76
  refine lB 75 hb76 ?_
  refine lN (cIT (CG.listed (lL hs [.m 76 7,.m 77 9] (lR 78 50 1 ([.int .u64 (cy:Nat)]) hs (fun b85 w86 h87 hs=>?_)))))
  refine lYe 79 0 ((wds b).length) b85 l u64c 0 cy 8 (.int .u64 0) hs (hs.f.1) oM oM (fun A89 c90 w91 h92 hs hcc94=>?_)
  replace hs:=hs.to [⟨bw1,50,(wds a).flatMap u64c⟩,⟨b7,52,[.int .u64 0,.string ⟨#[]⟩]⟩,⟨b4,52,nc b⟩,⟨b1,52,nc a⟩] []
  refine lL hs [.m 7 79] (lNS (lL hs [.m 80 7] (lC 81 hs (nFromE A89 c90 (l++[cy]) ((wds b).length+1) ((a+b)) (by first|rfl|assumption|(simp;done)|(simp;omega)|omega) (Dg.append hW (Dg.one oM)) (by show bval _ (l++[cy])=_;rw[bval_append];show _+_*(cy+_*0)=_;rw[Nat.mul_zero,Nat.add_zero];exact hE) sM sM _ _ hs.g (hs.f.1)) ?_)))
  rintro _ w95 h96 hs rfl
  refine lP 1 0 (nc (a+b)) hs (fun w97 hs=>?_)
  exact lN (CG.ret (hs.ret [(1,0,2)] (nv (a+b)) rfl))
 have phb75:=oT hb75
 refine lB 50 hb75 ?_
 refine lN (CG.seq (cIT (CG.skipN (CG.seq (CG.block (cSL (lL hs [.m 51 49,.m 10 51] (lNS (lL hs [.v 11 (.int .u64 0)] (lN (CG.seq (cSL (lL hs [.m 52 10,.m 53 8,.v 54 (.int .i64 ((wds a).length:Nat))] ?_)))))))))))))
 cases hb98:(decide (((i:Nat):Int)<(((wds a).length:Nat):Int)))
 ·
  have phb98:=oF hb98
  refine lB 55 hb98 ?_
  refine lN (cIF (CG.skipN (CG.listed (lL hs [.m 61 7,.m 62 10,.m 63 7,.m 64 10] (lX 65 (some ⟨bw2,0,none⟩) ((wds b).length) ((wds b).length) 1 (i:Nat) i rfl ?_)))))
  refine lQ 66 0 l u64c 1 0 i (.int .u64 ((l).getD i 0:Nat)) hs oM ?_
  refine lL hs [.m 67 11,.m 68 9] ?_
  obtain ⟨s99,c100,he101,hl102,hm103,hr104⟩:=bAdd64 ((l).getD i 0) 0 cy wM wM oM
  refine lV 69 (.tuple #[.int .u64 (s99:Nat),.int .u64 (c100:Nat)]) ?_ (hr:=opExt kR (hr104 _))
  refine lL hs [.m 60 69,.v 70 (.int .u64 (s99:Nat)),.v 71 (.int .u64 (c100:Nat))] (lX 72 (some ⟨bw2,0,none⟩) ((wds b).length) ((wds b).length) 1 (i:Nat) i rfl ?_)
  refine lW 0 l u64c 1 i s99 hs oM (fun w105 hs=>?_)
  have hl106:((l).set i s99).length=(wds b).length:=by rw[List.length_set];exact hll
  replace hs:=hs.to [⟨bw2,50,((l).set i s99).flatMap u64c⟩,⟨bw1,50,(wds a).flatMap u64c⟩,⟨b7,52,[.int .u64 0,.string ⟨#[]⟩]⟩,⟨b4,52,nc b⟩,⟨b1,52,nc a⟩] []
  refine lL hs [.m 9 71] (lN (CG.listed (lIn 73 ((i:Nat)+1) (i+1) ?_)))
  refine lL hs [.m 49 73] (lD ?_)
  intro a_ ka
  have q107:(i+1)≤(wds b).length:=by omega
  have q108:((l).set i s99).length=(wds b).length:=hl106
  have q109:Wd ((l).set i s99):=(hW.set _ oM)
  have q110:c100≤1:=oM
  have q111:bval 18446744073709551616 ((l).set i s99)+18446744073709551616^(i+1)*c100=b+bval 18446744073709551616 ((wds a:List Nat).take (i+1)):=(add_step oM inv (by first|omega|(have hy0:=getD_out (l:=(wds a:List Nat)) (k:=i) (by first|omega|(simp;done));omega)))
  refine ⟨_,_,?_,⟨i+1,(l).set i s99,c100,h73,rfl,rfl,hs.to _ _,q107,q108,q109,q110,q111⟩,ka.to [(4,.pointer (some ⟨b7,0,none⟩)),(7,.slice (some ⟨bw2,0,none⟩) ((wds b).length) ((wds b).length)),(8,.slice (some ⟨bw1,0,none⟩) ((wds a).length) ((wds a).length)),(48,.int .i64 ((wds b).length:Nat)),(49,.int .i64 ((i+1):Nat)),(9,.int .u64 (c100:Nat))] kR⟩
  omega
 have phb98:=oT hb98
 refine lB 55 hb98 ?_
 refine lN (cIT (CG.listed (lL hs [.m 56 8,.m 57 10] (lX 58 (some ⟨bw1,0,none⟩) ((wds a).length) ((wds a).length) 1 (i:Nat) i rfl ?_))))
 refine lQ 59 1 (wds a) u64c 1 0 i (.int .u64 ((wds a).getD i 0:Nat)) hs oM ?_
 refine lL hs [.m 11 59] (lN (CG.listed (lL hs [.m 61 7,.m 62 10,.m 63 7,.m 64 10] (lX 65 (some ⟨bw2,0,none⟩) ((wds b).length) ((wds b).length) 1 (i:Nat) i rfl ?_))))
 refine lQ 66 0 l u64c 1 0 i (.int .u64 ((l).getD i 0:Nat)) hs oM ?_
 refine lL hs [.m 67 11,.m 68 9] ?_
 obtain ⟨s112,c113,he114,hl115,hm116,hr117⟩:=bAdd64 ((l).getD i 0) ((wds a).getD i 0) cy wM wM oM
 refine lV 69 (.tuple #[.int .u64 (s112:Nat),.int .u64 (c113:Nat)]) ?_ (hr:=opExt kR (hr117 _))
 refine lL hs [.m 60 69,.v 70 (.int .u64 (s112:Nat)),.v 71 (.int .u64 (c113:Nat))] (lX 72 (some ⟨bw2,0,none⟩) ((wds b).length) ((wds b).length) 1 (i:Nat) i rfl ?_)
 refine lW 0 l u64c 1 i s112 hs oM (fun w118 hs=>?_)
 have hl119:((l).set i s112).length=(wds b).length:=by rw[List.length_set];exact hll
 replace hs:=hs.to [⟨bw2,50,((l).set i s112).flatMap u64c⟩,⟨bw1,50,(wds a).flatMap u64c⟩,⟨b7,52,[.int .u64 0,.string ⟨#[]⟩]⟩,⟨b4,52,nc b⟩,⟨b1,52,nc a⟩] []
 refine lL hs [.m 9 71] (lN (CG.listed (lIn 73 ((i:Nat)+1) (i+1) ?_)))
 refine lL hs [.m 49 73] (lD ?_)
 intro a_ ka
 have q120:(i+1)≤(wds b).length:=by omega
 have q121:((l).set i s112).length=(wds b).length:=hl119
 have q122:Wd ((l).set i s112):=(hW.set _ oM)
 have q123:c113≤1:=oM
 have q124:bval 18446744073709551616 ((l).set i s112)+18446744073709551616^(i+1)*c113=b+bval 18446744073709551616 ((wds a:List Nat).take (i+1)):=(add_step oM inv (by first|omega|(have hy0:=getD_out (l:=(wds a:List Nat)) (k:=i) (by first|omega|(simp;done));omega)))
 refine ⟨_,_,?_,⟨i+1,(l).set i s112,c113,h73,rfl,rfl,hs.to _ _,q120,q121,q122,q123,q124⟩,ka.to [(4,.pointer (some ⟨b7,0,none⟩)),(7,.slice (some ⟨bw2,0,none⟩) ((wds b).length) ((wds b).length)),(8,.slice (some ⟨bw1,0,none⟩) ((wds a).length) ((wds a).length)),(48,.int .i64 ((wds b).length:Nat)),(49,.int .i64 ((i+1):Nat)),(9,.int .u64 (c113:Nat))] kR⟩
 omega
theorem nAdd0R (b:Nat)(hl:(wds b).length≤1000000000)(hbs:18446744073709551616≤b)(w:World)(h:Hp)(g:G w h) :
    Calls Tryz.prog 100 #[nv 0,nv b] w (Ret w h fun v _=>v=nv (0+b)):=by
 have hs:=SS.start g
 have h2l:=wds_len_big hbs
 refine go Tryz.func100 [(0,nv 0),(1,nv b)] rfl ?_
 refine cSL (lA 2 52 (nc 0) hs (fun b1 w2 h3 hs=>?_))
 refine lA 3 52 (nc b) hs (fun b4 w5 h6 hs=>?_)
 refine lA 4 52 ([.int .u64 0,.string ⟨#[]⟩]) hs (fun b7 w8 h9 hs=>?_)
 refine lN (CG.seq (cSL (lL hs [.v 12 (.pointer (some ⟨b1,1,none⟩)),.o 13 (.string (hi 0)) 2 1 1] (lV 14 (.bool true) ?_ (hr:=rb kR (strE rfl))))))
 refine lL hs [.m 15 14,.v 16 (.pointer (some ⟨b4,1,none⟩)),.o 17 (.string (hi b)) 1 1 1] (lV 18 (.bool false) ?_ (hr:=rb kR (strN (hi_ne hbs))))
 refine lL hs [.v 19 (.bool false)] (lN (cIF (CG.skipN (CG.seq ?_))))
 obtain ⟨K_,hK_⟩:∃ K_,K_=w8.heap.size:=⟨_,rfl⟩
 have hk_b7:b7<K_:=by rw[hK_];exact zblk hs 0
 have hk_b4:b4<K_:=by rw[hK_];exact zblk hs 1
 have hk_b1:b1<K_:=by rw[hK_];exact zblk hs 2
 refine cRa ⟨[],some (K_,[])⟩ 0 mixed ?_
 have hszK:=hs.g.size
 replace hs:=hs.drew
 have hKl:=Nat.le_of_eq hK_
 refine zO 0 36 [(2,0,2)] (nv 0) rfl hKl hs (fun p hp=>by obtain rfl:=List.mem_singleton.1 hp;exact hk_b1) ?_
 refine zO 2 38 [(1,0,2)] (nv b) rfl hKl hs (fun p hp=>by obtain rfl:=List.mem_singleton.1 hp;exact hk_b4) ?_
 refine zCu 1 37 (nWords0 _ _ hs.g) rfl hKl ?_
 rintro _ w10 h11 u12 hKl rfl
 replace hs:=hs.step u12
 refine zCu 3 39 (nWords b oM oM _ _ hs.g) rfl hKl ?_
 rintro _ w13 h14 u15 hKl ⟨bw1,rfl,hlo1,hbc1,hsl1⟩
 obtain ⟨h16,hs,-,-⟩:=hs.take u15 hlo1 hbc1
 replace hs:=hs.to [⟨bw1,50,(wds b).flatMap u64c⟩,⟨b7,52,[.int .u64 0,.string ⟨#[]⟩]⟩,⟨b4,52,nc b⟩,⟨b1,52,nc 0⟩] []
 refine zV 4 7 (.slice none 0 0) ?_
 refine zV 5 8 (.slice (some ⟨bw1,0,none⟩) ((wds b).length) ((wds b).length)) ?_
 refine tN (CG.seq (cSL (lL hs [.m 40 7,.v 41 (.int .i64 0),.m 42 8,.v 43 (.int .i64 ((wds b).length:Nat))] ?_)))
 have ⟨hb17,phb17⟩:=dT (p:=(0:Int)<(((wds b).length:Nat):Int)) oM
 refine lB 44 hb17 ?_
 refine lN (cIT (CG.listed (lL hs [.m 45 8,.m 46 7,.m 7 45,.m 8 46] (lNS (lL hs [.v 9 (.int .u64 0)] (lN (CG.seq (cSL (lL hs [.m 47 7,.v 48 (.int .i64 ((wds b).length:Nat)),.v 49 (.int .i64 0)] (lN (CG.block (cTo [(4,.pointer (some ⟨b7,0,none⟩)),(7,.slice (some ⟨bw1,0,none⟩) ((wds b).length) ((wds b).length)),(8,.slice none 0 0),(48,.int .i64 ((wds b).length:Nat)),(49,.int .i64 0),(9,.int .u64 0)] ?_))))))))))))
 refine CG.loop (fun μ_ Γ w_=>∃ (i:Nat) (l:List Nat) (cy:Nat) (h_:Hp),μ_=(wds b).length-i∧Γ=[(4,.pointer (some ⟨b7,0,none⟩)),(7,.slice (some ⟨bw1,0,none⟩) ((wds b).length) ((wds b).length)),(8,.slice none 0 0),(48,.int .i64 ((wds b).length:Nat)),(49,.int .i64 (i:Nat)),(9,.int .u64 (cy:Nat))]∧SS w h w_ h_ [⟨bw1,50,(l).flatMap u64c⟩,⟨b7,52,[.int .u64 0,.string ⟨#[]⟩]⟩,⟨b4,52,nc b⟩,⟨b1,52,nc 0⟩] [] []∧(i≤(wds b).length)∧(l.length=(wds b).length)∧(Wd l)∧(cy≤1)∧(bval 18446744073709551616 l+18446744073709551616^i*cy=b+bval 18446744073709551616 (([]:List Nat).take i))) _ ⟨0,wds b,0,h16,rfl,rfl,hs.to _ _,Nat.zero_le _,rfl,Wd.wds _,oM,(by have hx_:bval 18446744073709551616 (wds b)=b:=wval_wds _;rw[hx_];simp[bval])⟩ ?_
 rintro _ _ w18 ⟨i,l,cy,h19,hm20,rfl,hs,hi,hll,hW,hcy,inv⟩
 have hlk:=hW.get i
 have hyk:=Wd.get (l:=[]) Dg.nil i
 refine cSL ?_
 cases hb21:(decide (((i:Nat):Int)<(((wds b).length:Nat):Int)))
 ·
  have phb21:=oF hb21
  refine lB 50 hb21 ?_
  refine lN (CG.seq (cIF (CG.exit ?_)))
  show CG _ _ _ _ _ _ _ _
  refine CG.seq (cSL ?_)
  have hE:=inv
  rw[List.take_of_length_le (show ([]).length≤i by first|omega|(simp;done)|(simp;omega))] at hE
  rw[show i=l.length by omega] at hE
  have hE_:([]:List Nat)=[]:=rfl
  replace hE:bval 18446744073709551616 l+18446744073709551616^l.length*cy=(0+b):=by rw[hE];simp[bval]
  refine lL hs [.m 74 9] ?_
  cases hb22:(((cy:Nat):Int) != (0:Int))
  ·
   have phb22:=eqOfBne hb22
   refine lB 75 hb22 ?_
   refine lN (cIF (CG.skipN (cSL ?_)))
   obtain ⟨h23,hs,sg24,lo25,bc26⟩:=hs.pub 0
   replace hs:=(hs.to [⟨b7,52,[.int .u64 0,.string ⟨#[]⟩]⟩,⟨b4,52,nc b⟩,⟨b1,52,nc 0⟩] []).a_SlO (SlO.of_flat (sz:=1) (f:=u64c) (d:=0) (b:=bw1) (o:=0) (l:=l) (fun _=>rfl) sg24)
   refine lL hs [.m 80 7] (lC 81 hs (nFromE (some ⟨bw1,0,none⟩) ((wds b).length) (l) ((wds b).length) ((0+b)) (by first|rfl|assumption|(simp;done)|(simp;omega)|omega) (hW) (by rw[show cy=0 by omega,Nat.mul_zero,Nat.add_zero] at hE;exact hE) sM sM _ _ hs.g (hs.f.1)) ?_)
   rintro _ w28 h29 hs rfl
   refine lP 0 0 (nc (0+b)) hs (fun w30 hs=>?_)
   exact lN (CG.ret (hs.ret [(0,0,2)] (nv (0+b)) rfl))
  have phb22:=neOfBne hb22
  refine lB 75 hb22 ?_
  refine lN (cIT (CG.listed (lL hs [.m 76 7,.m 77 9] (lR 78 50 1 ([.int .u64 (cy:Nat)]) hs (fun b31 w32 h33 hs=>?_)))))
  refine lYe 79 0 ((wds b).length) b31 l u64c 0 cy 8 (.int .u64 0) hs (hs.f.1) oM oM (fun A35 c36 w37 h38 hs hcc40=>?_)
  replace hs:=hs.to [⟨b7,52,[.int .u64 0,.string ⟨#[]⟩]⟩,⟨b4,52,nc b⟩,⟨b1,52,nc 0⟩] []
  refine lL hs [.m 7 79] (lNS (lL hs [.m 80 7] (lC 81 hs (nFromE A35 c36 (l++[cy]) ((wds b).length+1) ((0+b)) (by first|rfl|assumption|(simp;done)|(simp;omega)|omega) (Dg.append hW (Dg.one oM)) (by show bval _ (l++[cy])=_;rw[bval_append];show _+_*(cy+_*0)=_;rw[Nat.mul_zero,Nat.add_zero];exact hE) sM sM _ _ hs.g (hs.f.1)) ?_)))
  rintro _ w41 h42 hs rfl
  refine lP 0 0 (nc (0+b)) hs (fun w43 hs=>?_)
  exact lN (CG.ret (hs.ret [(0,0,2)] (nv (0+b)) rfl))
 have phb21:=oT hb21
 refine lB 50 hb21 ?_
 refine lN (CG.seq (cIT (CG.skipN (CG.seq (CG.block (cSL (lL hs [.m 51 49,.m 10 51] (lNS (lL hs [.v 11 (.int .u64 0)] (lN (CG.seq (cSL (lL hs [.m 52 10,.m 53 8,.v 54 (.int .i64 0)] ?_)))))))))))))
 have ⟨hb44,phb44⟩:=dF (p:=((i:Nat):Int)<(0:Int)) oM
 refine lB 55 hb44 ?_
 refine lN (cIF (CG.skipN (CG.listed (lL hs [.m 61 7,.m 62 10,.m 63 7,.m 64 10] (lX 65 (some ⟨bw1,0,none⟩) ((wds b).length) ((wds b).length) 1 (i:Nat) i rfl ?_)))))
 refine lQ 66 0 l u64c 1 0 i (.int .u64 ((l).getD i 0:Nat)) hs oM ?_
 refine lL hs [.m 67 11,.m 68 9] ?_
 obtain ⟨s45,c46,he47,hl48,hm49,hr50⟩:=bAdd64 ((l).getD i 0) 0 cy wM wM oM
 refine lV 69 (.tuple #[.int .u64 (s45:Nat),.int .u64 (c46:Nat)]) ?_ (hr:=opExt kR (hr50 _))
 refine lL hs [.m 60 69,.v 70 (.int .u64 (s45:Nat)),.v 71 (.int .u64 (c46:Nat))] (lX 72 (some ⟨bw1,0,none⟩) ((wds b).length) ((wds b).length) 1 (i:Nat) i rfl ?_)
 refine lW 0 l u64c 1 i s45 hs oM (fun w51 hs=>?_)
 have hl52:((l).set i s45).length=(wds b).length:=by rw[List.length_set];exact hll
 replace hs:=hs.to [⟨bw1,50,((l).set i s45).flatMap u64c⟩,⟨b7,52,[.int .u64 0,.string ⟨#[]⟩]⟩,⟨b4,52,nc b⟩,⟨b1,52,nc 0⟩] []
 refine lL hs [.m 9 71] (lN (CG.listed (lIn 73 ((i:Nat)+1) (i+1) ?_)))
 refine lL hs [.m 49 73] (lD ?_)
 intro a_ ka
 have q53:(i+1)≤(wds b).length:=by omega
 have q54:((l).set i s45).length=(wds b).length:=hl52
 have q55:Wd ((l).set i s45):=(hW.set _ oM)
 have q56:c46≤1:=oM
 have q57:bval 18446744073709551616 ((l).set i s45)+18446744073709551616^(i+1)*c46=b+bval 18446744073709551616 (([]:List Nat).take (i+1)):=(add_step oM inv (by first|omega|(have hy0:=getD_out (l:=([]:List Nat)) (k:=i) (by first|omega|(simp;done));omega)))
 refine ⟨_,_,?_,⟨i+1,(l).set i s45,c46,h19,rfl,rfl,hs.to _ _,q53,q54,q55,q56,q57⟩,ka.to [(4,.pointer (some ⟨b7,0,none⟩)),(7,.slice (some ⟨bw1,0,none⟩) ((wds b).length) ((wds b).length)),(8,.slice none 0 0),(48,.int .i64 ((wds b).length:Nat)),(49,.int .i64 ((i+1):Nat)),(9,.int .u64 (c46:Nat))] kR⟩
 omega
theorem nAdd0L (a:Nat)(hl:(wds a).length≤1000000000)(has:18446744073709551616≤a)(w:World)(h:Hp)(g:G w h) :
    Calls Tryz.prog 100 #[nv a,nv 0] w (Ret w h fun v _=>v=nv (a+0)):=by
 have hs:=SS.start g
 have h2l:=wds_len_big has
 refine go Tryz.func100 [(0,nv a),(1,nv 0)] rfl ?_
 refine cSL (lA 2 52 (nc a) hs (fun b1 w2 h3 hs=>?_))
 refine lA 3 52 (nc 0) hs (fun b4 w5 h6 hs=>?_)
 refine lA 4 52 ([.int .u64 0,.string ⟨#[]⟩]) hs (fun b7 w8 h9 hs=>?_)
 refine lN (CG.seq (cSL (lL hs [.v 12 (.pointer (some ⟨b1,1,none⟩)),.o 13 (.string (hi a)) 2 1 1] (lV 14 (.bool false) ?_ (hr:=rb kR (strN (hi_ne has)))))))
 refine lL hs [.m 15 14] (lG 16 ?_)
 refine lG 17 ?_
 refine lG 18 ?_
 refine lL hs [.v 19 (.bool false)] (lN (cIF (CG.skipN (CG.seq ?_))))
 obtain ⟨K_,hK_⟩:∃ K_,K_=w8.heap.size:=⟨_,rfl⟩
 have hk_b7:b7<K_:=by rw[hK_];exact zblk hs 0
 have hk_b4:b4<K_:=by rw[hK_];exact zblk hs 1
 have hk_b1:b1<K_:=by rw[hK_];exact zblk hs 2
 refine cRa ⟨[],some (K_,[])⟩ 0 mixed ?_
 have hszK:=hs.g.size
 replace hs:=hs.drew
 have hKl:=Nat.le_of_eq hK_
 refine zO 0 36 [(2,0,2)] (nv a) rfl hKl hs (fun p hp=>by obtain rfl:=List.mem_singleton.1 hp;exact hk_b1) ?_
 refine zO 2 38 [(1,0,2)] (nv 0) rfl hKl hs (fun p hp=>by obtain rfl:=List.mem_singleton.1 hp;exact hk_b4) ?_
 refine zCu 1 37 (nWords a oM oM _ _ hs.g) rfl hKl ?_
 rintro _ w10 h11 u12 hKl ⟨bw1,rfl,hlo1,hbc1,hsl1⟩
 obtain ⟨h13,hs,-,-⟩:=hs.take u12 hlo1 hbc1
 replace hs:=hs.to [⟨bw1,50,(wds a).flatMap u64c⟩,⟨b7,52,[.int .u64 0,.string ⟨#[]⟩]⟩,⟨b4,52,nc 0⟩,⟨b1,52,nc a⟩] []
 refine zCu 3 39 (nWords0 _ _ hs.g) rfl hKl ?_
 rintro _ w14 h15 u16 hKl rfl
 replace hs:=hs.step u16
 refine zV 4 7 (.slice (some ⟨bw1,0,none⟩) ((wds a).length) ((wds a).length)) ?_
 refine zV 5 8 (.slice none 0 0) ?_
 refine tN (CG.seq (cSL (lL hs [.m 40 7,.v 41 (.int .i64 ((wds a).length:Nat)),.m 42 8,.v 43 (.int .i64 0)] ?_)))
 have ⟨hb17,phb17⟩:=dF (p:=(((wds a).length:Nat):Int)<(0:Int)) oM
 refine lB 44 hb17 ?_
 refine lN (cIF (CG.skipN (cSL (lL hs [.v 9 (.int .u64 0)] (lN (CG.seq (cSL (lL hs [.m 47 7,.v 48 (.int .i64 ((wds a).length:Nat)),.v 49 (.int .i64 0)] (lN (CG.block (cTo [(4,.pointer (some ⟨b7,0,none⟩)),(7,.slice (some ⟨bw1,0,none⟩) ((wds a).length) ((wds a).length)),(8,.slice none 0 0),(48,.int .i64 ((wds a).length:Nat)),(49,.int .i64 0),(9,.int .u64 0)] ?_)))))))))))
 refine CG.loop (fun μ_ Γ w_=>∃ (i:Nat) (l:List Nat) (cy:Nat) (h_:Hp),μ_=(wds a).length-i∧Γ=[(4,.pointer (some ⟨b7,0,none⟩)),(7,.slice (some ⟨bw1,0,none⟩) ((wds a).length) ((wds a).length)),(8,.slice none 0 0),(48,.int .i64 ((wds a).length:Nat)),(49,.int .i64 (i:Nat)),(9,.int .u64 (cy:Nat))]∧SS w h w_ h_ [⟨bw1,50,(l).flatMap u64c⟩,⟨b7,52,[.int .u64 0,.string ⟨#[]⟩]⟩,⟨b4,52,nc 0⟩,⟨b1,52,nc a⟩] [] []∧(i≤(wds a).length)∧(l.length=(wds a).length)∧(Wd l)∧(cy≤1)∧(bval 18446744073709551616 l+18446744073709551616^i*cy=a+bval 18446744073709551616 (([]:List Nat).take i))) _ ⟨0,wds a,0,h15,rfl,rfl,hs.to _ _,Nat.zero_le _,rfl,Wd.wds _,oM,(by have hx_:bval 18446744073709551616 (wds a)=a:=wval_wds _;rw[hx_];simp[bval])⟩ ?_
 rintro _ _ w18 ⟨i,l,cy,h19,hm20,rfl,hs,hi,hll,hW,hcy,inv⟩
 have hlk:=hW.get i
 have hyk:=Wd.get (l:=[]) Dg.nil i
 refine cSL ?_
 cases hb21:(decide (((i:Nat):Int)<(((wds a).length:Nat):Int)))
 ·
  have phb21:=oF hb21
  refine lB 50 hb21 ?_
  refine lN (CG.seq (cIF (CG.exit ?_)))
  show CG _ _ _ _ _ _ _ _
  refine CG.seq (cSL ?_)
  have hE:=inv
  rw[List.take_of_length_le (show ([]).length≤i by first|omega|(simp;done)|(simp;omega))] at hE
  rw[show i=l.length by omega] at hE
  have hE_:([]:List Nat)=[]:=rfl
  replace hE:bval 18446744073709551616 l+18446744073709551616^l.length*cy=(a+0):=by rw[hE];simp[bval]
  refine lL hs [.m 74 9] ?_
  cases hb22:(((cy:Nat):Int) != (0:Int))
  ·
   have phb22:=eqOfBne hb22
   refine lB 75 hb22 ?_
   refine lN (cIF (CG.skipN (cSL ?_)))
   obtain ⟨h23,hs,sg24,lo25,bc26⟩:=hs.pub 0
   replace hs:=(hs.to [⟨b7,52,[.int .u64 0,.string ⟨#[]⟩]⟩,⟨b4,52,nc 0⟩,⟨b1,52,nc a⟩] []).a_SlO (SlO.of_flat (sz:=1) (f:=u64c) (d:=0) (b:=bw1) (o:=0) (l:=l) (fun _=>rfl) sg24)
   refine lL hs [.m 80 7] (lC 81 hs (nFromE (some ⟨bw1,0,none⟩) ((wds a).length) (l) ((wds a).length) ((a+0)) (by first|rfl|assumption|(simp;done)|(simp;omega)|omega) (hW) (by rw[show cy=0 by omega,Nat.mul_zero,Nat.add_zero] at hE;exact hE) sM sM _ _ hs.g (hs.f.1)) ?_)
   rintro _ w28 h29 hs rfl
   refine lP 0 0 (nc (a+0)) hs (fun w30 hs=>?_)
   exact lN (CG.ret (hs.ret [(0,0,2)] (nv (a+0)) rfl))
  have phb22:=neOfBne hb22
  refine lB 75 hb22 ?_
  refine lN (cIT (CG.listed (lL hs [.m 76 7,.m 77 9] (lR 78 50 1 ([.int .u64 (cy:Nat)]) hs (fun b31 w32 h33 hs=>?_)))))
  refine lYe 79 0 ((wds a).length) b31 l u64c 0 cy 8 (.int .u64 0) hs (hs.f.1) oM oM (fun A35 c36 w37 h38 hs hcc40=>?_)
  replace hs:=hs.to [⟨b7,52,[.int .u64 0,.string ⟨#[]⟩]⟩,⟨b4,52,nc 0⟩,⟨b1,52,nc a⟩] []
  refine lL hs [.m 7 79] (lNS (lL hs [.m 80 7] (lC 81 hs (nFromE A35 c36 (l++[cy]) ((wds a).length+1) ((a+0)) (by first|rfl|assumption|(simp;done)|(simp;omega)|omega) (Dg.append hW (Dg.one oM)) (by show bval _ (l++[cy])=_;rw[bval_append];show _+_*(cy+_*0)=_;rw[Nat.mul_zero,Nat.add_zero];exact hE) sM sM _ _ hs.g (hs.f.1)) ?_)))
  rintro _ w41 h42 hs rfl
  refine lP 0 0 (nc (a+0)) hs (fun w43 hs=>?_)
  exact lN (CG.ret (hs.ret [(0,0,2)] (nv (a+0)) rfl))
 have phb21:=oT hb21
 refine lB 50 hb21 ?_
 refine lN (CG.seq (cIT (CG.skipN (CG.seq (CG.block (cSL (lL hs [.m 51 49,.m 10 51] (lNS (lL hs [.v 11 (.int .u64 0)] (lN (CG.seq (cSL (lL hs [.m 52 10,.m 53 8,.v 54 (.int .i64 0)] ?_)))))))))))))
 have ⟨hb44,phb44⟩:=dF (p:=((i:Nat):Int)<(0:Int)) oM
 refine lB 55 hb44 ?_
 refine lN (cIF (CG.skipN (CG.listed (lL hs [.m 61 7,.m 62 10,.m 63 7,.m 64 10] (lX 65 (some ⟨bw1,0,none⟩) ((wds a).length) ((wds a).length) 1 (i:Nat) i rfl ?_)))))
 refine lQ 66 0 l u64c 1 0 i (.int .u64 ((l).getD i 0:Nat)) hs oM ?_
 refine lL hs [.m 67 11,.m 68 9] ?_
 obtain ⟨s45,c46,he47,hl48,hm49,hr50⟩:=bAdd64 ((l).getD i 0) 0 cy wM wM oM
 refine lV 69 (.tuple #[.int .u64 (s45:Nat),.int .u64 (c46:Nat)]) ?_ (hr:=opExt kR (hr50 _))
 refine lL hs [.m 60 69,.v 70 (.int .u64 (s45:Nat)),.v 71 (.int .u64 (c46:Nat))] (lX 72 (some ⟨bw1,0,none⟩) ((wds a).length) ((wds a).length) 1 (i:Nat) i rfl ?_)
 refine lW 0 l u64c 1 i s45 hs oM (fun w51 hs=>?_)
 have hl52:((l).set i s45).length=(wds a).length:=by rw[List.length_set];exact hll
 replace hs:=hs.to [⟨bw1,50,((l).set i s45).flatMap u64c⟩,⟨b7,52,[.int .u64 0,.string ⟨#[]⟩]⟩,⟨b4,52,nc 0⟩,⟨b1,52,nc a⟩] []
 refine lL hs [.m 9 71] (lN (CG.listed (lIn 73 ((i:Nat)+1) (i+1) ?_)))
 refine lL hs [.m 49 73] (lD ?_)
 intro a_ ka
 have q53:(i+1)≤(wds a).length:=by omega
 have q54:((l).set i s45).length=(wds a).length:=hl52
 have q55:Wd ((l).set i s45):=(hW.set _ oM)
 have q56:c46≤1:=oM
 have q57:bval 18446744073709551616 ((l).set i s45)+18446744073709551616^(i+1)*c46=a+bval 18446744073709551616 (([]:List Nat).take (i+1)):=(add_step oM inv (by first|omega|(have hy0:=getD_out (l:=([]:List Nat)) (k:=i) (by first|omega|(simp;done));omega)))
 refine ⟨_,_,?_,⟨i+1,(l).set i s45,c46,h19,rfl,rfl,hs.to _ _,q53,q54,q55,q56,q57⟩,ka.to [(4,.pointer (some ⟨b7,0,none⟩)),(7,.slice (some ⟨bw1,0,none⟩) ((wds a).length) ((wds a).length)),(8,.slice none 0 0),(48,.int .i64 ((wds a).length:Nat)),(49,.int .i64 ((i+1):Nat)),(9,.int .u64 (c46:Nat))] kR⟩
 omega
theorem nAdd (a b:Nat)(hla:(wds a).length≤1000000000)(hlb:(wds b).length≤1000000000)(w:World)(h:Hp)(g:G w h):Calls Tryz.prog 100 #[nv a,nv b] w (Ret w h fun v _=>v=nv (a+b)):=by
  rcases Nat.lt_or_ge a 18446744073709551616 with h1|h1
  · rcases Nat.lt_or_ge b 18446744073709551616 with h2|h2
    · exact nAddS a b hla hlb h1 h2 w h g
    · rcases Nat.eq_zero_or_pos a with h3|h3
      · subst h3;exact nAdd0R b hlb h2 w h g
      · exact nAddR a b hla hlb h1 h3 h2 w h g
  · rcases Nat.eq_zero_or_pos b with h3|h3
    · subst h3;exact nAdd0L a hla h1 w h g
    · exact nAddL a b hla hlb h1 h3 w h g
theorem sub_end {l:List Nat}{a b bo:Nat}(hW:Wd l)(inv:bval 18446744073709551616 l+b=a+18446744073709551616^l.length*bo)(hab:b≤a)(hbo:bo≤1):wval l=a-b:=by
  have h1:=bval_lt hW
  have:bo=0:=by
    rcases Nat.eq_zero_or_pos bo with h|h
    · exact h
    · have:bo=1:=by omega
      subst this
      rw[Nat.mul_one] at inv
      omega
  subst this
  rw[Nat.mul_zero,Nat.add_zero] at inv
  show bval _ l=_
  omega
theorem quo_rem {a b q r:Nat}(h:a=b*q+r)(hr:r<b):q=a/b∧r=a%b:=by
  subst h
  rw[Nat.mul_add_div oM,Nat.div_eq_of_lt hr,Nat.mul_add_mod,Nat.mod_eq_of_lt hr];simp
theorem nWordsG (n:Nat)(hl:(wds n).length≤1000000000)(w:World)(h:Hp)(g:G w h):Calls Tryz.prog 110 #[nv n] w (Ret w h fun v h1=>∃ A c,v=.slice A (wds n).length c∧(wds n).length≤c∧SlO 1 u64c 0 h1 A (wds n)):=by
  rcases Nat.eq_zero_or_pos n with h0|h0
  · subst h0
    refine (nWords0 w h g).mono ?_
    rintro _ w' ⟨_,h',rfl,u,rfl⟩
    exact ⟨_,h',rfl,u,none,0,rfl,Nat.le_refl _,SlO.nil⟩
  · refine (nWords n h0 hl w h g).mono ?_
    rintro _ w' ⟨_,h',rfl,u,b,rfl,_,_,hs⟩
    exact ⟨_,h',rfl,u,_,_,rfl,Nat.le_refl _,hs⟩
theorem nSubN (a b:Nat)(hab:a<b)(hla:(wds a).length≤1000000000)(hlb:(wds b).length≤1000000000)(w:World)(h:Hp)(g:G w h) :
    Calls Tryz.prog 101 #[nv a,nv b] w (Ret w h fun v _=>v=.tuple #[nv 0,.bool false]):=by
 have hs:=SS.start g
 have hcl:=cmpN_lt hab
 refine go Tryz.func101 [(0,nv a),(1,nv b)] rfl ?_
 refine cSL (lA 2 52 (nc a) hs (fun b1 w2 h3 hs=>?_))
 refine lA 3 52 (nc b) hs (fun b4 w5 h6 hs=>?_)
 refine lA 4 52 ([.int .u64 0,.string ⟨#[]⟩]) hs (fun b7 w8 h9 hs=>?_)
 refine lL hs [.v 5 (.bool false)] (lN (CG.seq (cSL (lL hs [.o 11 (nv a) 2 0 2,.o 12 (nv b) 1 0 2] (lC 13 hs (nCmp a b hla hlb _ _ hs.g) ?_)))))
 rintro _ w10 h11 hs rfl
 have ⟨hb12,phb12⟩:=dT (p:=(cmpN a b:Int)<(0:Int)) oM
 refine lB 14 hb12 ?_
 refine lN (cIT (cSL (lL hs [.v 15 (.agg #[.int .u64 0,.string ⟨#[]⟩])] (lP 0 0 ([.int .u64 0,.string ⟨#[]⟩]) hs (fun w13 hs=>?_)))))
 exact lL hs [.v 5 (.bool false)] (lN (CG.ret (hs.ret [(0,0,2)] (.tuple #[.agg #[.int .u64 0,.string ⟨#[]⟩],.bool false]) rfl)))
theorem nSubS (a b:Nat)(hla:(wds a).length≤1000000000)(hlb:(wds b).length≤1000000000)(hab:b≤a)(has:a<18446744073709551616)(w:World)(h:Hp)(g:G w h) :
    Calls Tryz.prog 101 #[nv a,nv b] w (Ret w h fun v _=>v=.tuple #[nv (a-b),.bool true]):=by
 have hs:=SS.start g
 have hcl:=cmpN_ge hab
 refine go Tryz.func101 [(0,nv a),(1,nv b)] rfl ?_
 refine cSL (lA 2 52 (nc a) hs (fun b1 w2 h3 hs=>?_))
 refine lA 3 52 (nc b) hs (fun b4 w5 h6 hs=>?_)
 refine lA 4 52 ([.int .u64 0,.string ⟨#[]⟩]) hs (fun b7 w8 h9 hs=>?_)
 refine lL hs [.v 5 (.bool false)] (lN (CG.seq (cSL (lL hs [.o 11 (nv a) 2 0 2,.o 12 (nv b) 1 0 2] (lC 13 hs (nCmp a b hla hlb _ _ hs.g) ?_)))))
 rintro _ w10 h11 hs rfl
 have ⟨hb12,phb12⟩:=dF (p:=(cmpN a b:Int)<(0:Int)) oM
 refine lB 14 hb12 ?_
 refine lN (cIF (CG.skipN (CG.seq (cSL (lL hs [.v 16 (.pointer (some ⟨b1,1,none⟩)),.o 17 (.string (hi a)) 2 1 1] (lV 18 (.bool true) ?_ (hr:=rb kR (strE (hi_nil has)))))))))
 refine lN (cIT (cSL (lL hs [.v 19 (.pointer (some ⟨b1,0,none⟩)),.o 20 (.int .u64 (a%18446744073709551616:Nat)) 2 0 1,.v 21 (.pointer (some ⟨b4,0,none⟩)),.o 22 (.int .u64 (b%18446744073709551616:Nat)) 1 0 1] (lV 23 (.int .u64 ((a%18446744073709551616)-(b%18446744073709551616):Nat)) ?_ (hr:=rint (n:=IntKind.wrap .u64 (((a%18446744073709551616:Nat):Int)-((b%18446744073709551616:Nat):Int))) kR (fSU64 (a%18446744073709551616) (b%18446744073709551616) oM oM))))))
 refine lL hs [.v 24 (.agg #[.int .u64 ((a%18446744073709551616)-(b%18446744073709551616):Nat),.string ⟨#[]⟩])] (lP 0 0 ([.int .u64 ((a%18446744073709551616)-(b%18446744073709551616):Nat),.string ⟨#[]⟩]) hs (fun w13 hs=>?_))
 exact lL hs [.v 5 (.bool true)] (lN (CG.ret (hs.ret [(0,0,2)] (.tuple #[.agg #[.int .u64 ((a%18446744073709551616)-(b%18446744073709551616):Nat),.string ⟨#[]⟩],.bool true]) (by rw[Nat.mod_eq_of_lt has,Nat.mod_eq_of_lt (show b<18446744073709551616 by omega),nv_lit oM]))))
theorem nSubB (a b:Nat)(hla:(wds a).length≤1000000000)(hlb:(wds b).length≤1000000000)(hab:b≤a)(has:18446744073709551616≤a)(hb0:0<b)(w:World)(h:Hp)(g:G w h) :
    Calls Tryz.prog 101 #[nv a,nv b] w (Ret w h fun v _=>v=.tuple #[nv (a-b),.bool true]):=by
 have hs:=SS.start g
 have hcl:=cmpN_ge hab
 have hlm:=wds_len_mono hab
 refine go Tryz.func101 [(0,nv a),(1,nv b)] rfl ?_
 refine cSL (lA 2 52 (nc a) hs (fun b1 w2 h3 hs=>?_))
 refine lA 3 52 (nc b) hs (fun b4 w5 h6 hs=>?_)
 refine lA 4 52 ([.int .u64 0,.string ⟨#[]⟩]) hs (fun b7 w8 h9 hs=>?_)
 refine lL hs [.v 5 (.bool false)] (lN (CG.seq (cSL (lL hs [.o 11 (nv a) 2 0 2,.o 12 (nv b) 1 0 2] (lC 13 hs (nCmp a b hla hlb _ _ hs.g) ?_)))))
 rintro _ w10 h11 hs rfl
 have ⟨hb12,phb12⟩:=dF (p:=(cmpN a b:Int)<(0:Int)) oM
 refine lB 14 hb12 ?_
 refine lN (cIF (CG.skipN (CG.seq (cSL (lL hs [.v 16 (.pointer (some ⟨b1,1,none⟩)),.o 17 (.string (hi a)) 2 1 1] (lV 18 (.bool false) ?_ (hr:=rb kR (strN (hi_ne has)))))))))
 refine lN (cIF (CG.skipN (CG.seq ?_)))
 obtain ⟨K_,hK_⟩:∃ K_,K_=w10.heap.size:=⟨_,rfl⟩
 have hk_b7:b7<K_:=by rw[hK_];exact zblk hs 0
 have hk_b4:b4<K_:=by rw[hK_];exact zblk hs 1
 have hk_b1:b1<K_:=by rw[hK_];exact zblk hs 2
 refine cRa ⟨[],some (K_,[])⟩ 0 mixed ?_
 have hszK:=hs.g.size
 replace hs:=hs.drew
 have hKl:=Nat.le_of_eq hK_
 refine zO 0 25 [(2,0,2)] (nv a) rfl hKl hs (fun p hp=>by obtain rfl:=List.mem_singleton.1 hp;exact hk_b1) ?_
 refine zO 2 27 [(1,0,2)] (nv b) rfl hKl hs (fun p hp=>by obtain rfl:=List.mem_singleton.1 hp;exact hk_b4) ?_
 refine zCu 1 26 (nWords a oM oM _ _ hs.g) rfl hKl ?_
 rintro _ w13 h14 u15 hKl ⟨bw1,rfl,hlo1,hbc1,hsl1⟩
 obtain ⟨h16,hs,-,-⟩:=hs.take u15 hlo1 hbc1
 replace hs:=hs.to [⟨bw1,50,(wds a).flatMap u64c⟩,⟨b7,52,[.int .u64 0,.string ⟨#[]⟩]⟩,⟨b4,52,nc b⟩,⟨b1,52,nc a⟩] []
 refine zCu 3 28 (nWords b oM oM _ _ hs.g) rfl hKl ?_
 rintro _ w17 h18 u19 hKl ⟨bw2,rfl,hlo2,hbc2,hsl2⟩
 obtain ⟨h20,hs,-,-⟩:=hs.take u19 hlo2 hbc2
 replace hs:=hs.to [⟨bw2,50,(wds b).flatMap u64c⟩,⟨bw1,50,(wds a).flatMap u64c⟩,⟨b7,52,[.int .u64 0,.string ⟨#[]⟩]⟩,⟨b4,52,nc b⟩,⟨b1,52,nc a⟩] []
 refine zV 4 6 (.slice (some ⟨bw1,0,none⟩) ((wds a).length) ((wds a).length)) ?_
 refine zV 5 7 (.slice (some ⟨bw2,0,none⟩) ((wds b).length) ((wds b).length)) ?_
 refine tNS ?_
 refine lL hs [.v 8 (.int .u64 0)] (lN (CG.seq (cSL (lL hs [.m 29 6,.v 30 (.int .i64 ((wds a).length:Nat)),.v 31 (.int .i64 0)] (lN (CG.block (cTo [(4,.pointer (some ⟨b7,0,none⟩)),(5,.bool false),(6,.slice (some ⟨bw1,0,none⟩) ((wds a).length) ((wds a).length)),(7,.slice (some ⟨bw2,0,none⟩) ((wds b).length) ((wds b).length)),(30,.int .i64 ((wds a).length:Nat)),(31,.int .i64 0),(8,.int .u64 0)] ?_)))))))
 refine CG.loop (fun μ_ Γ w_=>∃ (i:Nat) (l:List Nat) (bo:Nat) (h_:Hp),μ_=(wds a).length-i∧Γ=[(4,.pointer (some ⟨b7,0,none⟩)),(5,.bool false),(6,.slice (some ⟨bw1,0,none⟩) ((wds a).length) ((wds a).length)),(7,.slice (some ⟨bw2,0,none⟩) ((wds b).length) ((wds b).length)),(30,.int .i64 ((wds a).length:Nat)),(31,.int .i64 (i:Nat)),(8,.int .u64 (bo:Nat))]∧SS w h w_ h_ [⟨bw2,50,(wds b).flatMap u64c⟩,⟨bw1,50,(l).flatMap u64c⟩,⟨b7,52,[.int .u64 0,.string ⟨#[]⟩]⟩,⟨b4,52,nc b⟩,⟨b1,52,nc a⟩] [] []∧(i≤(wds a).length)∧(l.length=(wds a).length)∧(Wd l)∧(bo≤1)∧(bval 18446744073709551616 l+bval 18446744073709551616 ((wds b:List Nat).take i)=a+18446744073709551616^i*bo)) _ ⟨0,wds a,0,h20,rfl,rfl,hs.to _ _,Nat.zero_le _,rfl,Wd.wds _,oM,(by have hx_:bval 18446744073709551616 (wds a)=a:=wval_wds _;rw[hx_];simp[bval])⟩ ?_
 rintro _ _ w21 ⟨i,l,bo,h22,hm23,rfl,hs,hi,hll,hW,hbo,inv⟩
 have hlk:=hW.get i
 have hyk:=(Wd.wds b).get i
 refine cSL ?_
 cases hb24:(decide (((i:Nat):Int)<(((wds a).length:Nat):Int)))
 ·
  have phb24:=oF hb24
  refine lB 32 hb24 ?_
  refine lN (CG.seq (cIF (CG.exit ?_)))
  show CG _ _ _ _ _ _ _ _
  refine cSL ?_
  rw[List.take_of_length_le (show (wds b).length≤i by first|omega|(simp;done)|(simp;omega)),show i=l.length by omega] at inv
  have hE:wval l=a-b:=sub_end hW (by have hb_:bval 18446744073709551616 (wds b)=b:=wval_wds b;rw[←hb_];exact inv) oM hbo
  obtain ⟨h25,hs,sg26,lo27,bc28⟩:=hs.pub 1
  replace hs:=(hs.to [⟨bw2,50,(wds b).flatMap u64c⟩,⟨b7,52,[.int .u64 0,.string ⟨#[]⟩]⟩,⟨b4,52,nc b⟩,⟨b1,52,nc a⟩] []).a_SlO (SlO.of_flat (sz:=1) (f:=u64c) (d:=0) (b:=bw1) (o:=0) (l:=l) (fun _=>rfl) sg26)
  refine lL hs [.m 56 6] (lC 57 hs (nFromE (some ⟨bw1,0,none⟩) ((wds a).length) (l) ((wds a).length) ((a-b)) (by first|rfl|assumption|(simp;done)|(simp;omega)|omega) (hW) (hE) sM sM _ _ hs.g (hs.f.1)) ?_)
  rintro _ w30 h31 hs rfl
  refine lP 1 0 (nc (a-b)) hs (fun w32 hs=>?_)
  exact lL hs [.v 5 (.bool true)] (lN (CG.ret (hs.ret [(1,0,2)] (.tuple #[nv (a-b),.bool true]) rfl)))
 have phb24:=oT hb24
 refine lB 32 hb24 ?_
 refine lN (CG.seq (cIT (CG.skipN (CG.seq (CG.block (cSL (lL hs [.m 33 31,.m 9 33] (lNS (lL hs [.v 10 (.int .u64 0)] (lN (CG.seq (cSL (lL hs [.m 34 9,.m 35 7,.v 36 (.int .i64 ((wds b).length:Nat))] ?_)))))))))))))
 cases hb33:(decide (((i:Nat):Int)<(((wds b).length:Nat):Int)))
 ·
  have phb33:=oF hb33
  refine lB 37 hb33 ?_
  refine lN (cIF (CG.skipN (CG.listed (lL hs [.m 43 6,.m 44 9,.m 45 6,.m 46 9] (lX 47 (some ⟨bw1,0,none⟩) ((wds a).length) ((wds a).length) 1 (i:Nat) i rfl ?_)))))
  refine lQ 48 1 l u64c 1 0 i (.int .u64 ((l).getD i 0:Nat)) hs oM ?_
  refine lL hs [.m 49 10,.m 50 8] ?_
  obtain ⟨s34,c35,he36,hl37,hm38,hr39⟩:=bSub64 ((l).getD i 0) 0 bo wM wM oM
  refine lV 51 (.tuple #[.int .u64 (s34:Nat),.int .u64 (c35:Nat)]) ?_ (hr:=opExt kR (hr39 _))
  refine lL hs [.m 42 51,.v 52 (.int .u64 (s34:Nat)),.v 53 (.int .u64 (c35:Nat))] (lX 54 (some ⟨bw1,0,none⟩) ((wds a).length) ((wds a).length) 1 (i:Nat) i rfl ?_)
  refine lW 1 l u64c 1 i s34 hs oM (fun w40 hs=>?_)
  have hl41:((l).set i s34).length=(wds a).length:=by rw[List.length_set];exact hll
  replace hs:=hs.to [⟨bw2,50,(wds b).flatMap u64c⟩,⟨bw1,50,((l).set i s34).flatMap u64c⟩,⟨b7,52,[.int .u64 0,.string ⟨#[]⟩]⟩,⟨b4,52,nc b⟩,⟨b1,52,nc a⟩] []
  refine lL hs [.m 8 53] (lN (CG.listed (lIn 55 ((i:Nat)+1) (i+1) ?_)))
  refine lL hs [.m 31 55] (lD ?_)
  intro a_ ka
  have q42:(i+1)≤(wds a).length:=by omega
  have q43:((l).set i s34).length=(wds a).length:=hl41
  have q44:Wd ((l).set i s34):=(hW.set _ oM)
  have q45:c35≤1:=oM
  have q46:bval 18446744073709551616 ((l).set i s34)+bval 18446744073709551616 ((wds b:List Nat).take (i+1))=a+18446744073709551616^(i+1)*c35:=(sub_step oM inv (by first|omega|(have hy0:=getD_out (l:=(wds b:List Nat)) (k:=i) (by first|omega|(simp;done));omega)))
  refine ⟨_,_,?_,⟨i+1,(l).set i s34,c35,h22,rfl,rfl,hs.to _ _,q42,q43,q44,q45,q46⟩,ka.to [(4,.pointer (some ⟨b7,0,none⟩)),(5,.bool false),(6,.slice (some ⟨bw1,0,none⟩) ((wds a).length) ((wds a).length)),(7,.slice (some ⟨bw2,0,none⟩) ((wds b).length) ((wds b).length)),(30,.int .i64 ((wds a).length:Nat)),(31,.int .i64 ((i+1):Nat)),(8,.int .u64 (c35:Nat))] kR⟩
  omega
 have phb33:=oT hb33
 refine lB 37 hb33 ?_
 refine lN (cIT (CG.listed (lL hs [.m 38 7,.m 39 9] (lX 40 (some ⟨bw2,0,none⟩) ((wds b).length) ((wds b).length) 1 (i:Nat) i rfl ?_))))
 refine lQ 41 0 (wds b) u64c 1 0 i (.int .u64 ((wds b).getD i 0:Nat)) hs oM ?_
 refine lL hs [.m 10 41] (lN (CG.listed (lL hs [.m 43 6,.m 44 9,.m 45 6,.m 46 9] (lX 47 (some ⟨bw1,0,none⟩) ((wds a).length) ((wds a).length) 1 (i:Nat) i rfl ?_))))
 refine lQ 48 1 l u64c 1 0 i (.int .u64 ((l).getD i 0:Nat)) hs oM ?_
 refine lL hs [.m 49 10,.m 50 8] ?_
 obtain ⟨s47,c48,he49,hl50,hm51,hr52⟩:=bSub64 ((l).getD i 0) ((wds b).getD i 0) bo wM wM oM
 refine lV 51 (.tuple #[.int .u64 (s47:Nat),.int .u64 (c48:Nat)]) ?_ (hr:=opExt kR (hr52 _))
 refine lL hs [.m 42 51,.v 52 (.int .u64 (s47:Nat)),.v 53 (.int .u64 (c48:Nat))] (lX 54 (some ⟨bw1,0,none⟩) ((wds a).length) ((wds a).length) 1 (i:Nat) i rfl ?_)
 refine lW 1 l u64c 1 i s47 hs oM (fun w53 hs=>?_)
 have hl54:((l).set i s47).length=(wds a).length:=by rw[List.length_set];exact hll
 replace hs:=hs.to [⟨bw2,50,(wds b).flatMap u64c⟩,⟨bw1,50,((l).set i s47).flatMap u64c⟩,⟨b7,52,[.int .u64 0,.string ⟨#[]⟩]⟩,⟨b4,52,nc b⟩,⟨b1,52,nc a⟩] []
 refine lL hs [.m 8 53] (lN (CG.listed (lIn 55 ((i:Nat)+1) (i+1) ?_)))
 refine lL hs [.m 31 55] (lD ?_)
 intro a_ ka
 have q55:(i+1)≤(wds a).length:=by omega
 have q56:((l).set i s47).length=(wds a).length:=hl54
 have q57:Wd ((l).set i s47):=(hW.set _ oM)
 have q58:c48≤1:=oM
 have q59:bval 18446744073709551616 ((l).set i s47)+bval 18446744073709551616 ((wds b:List Nat).take (i+1))=a+18446744073709551616^(i+1)*c48:=(sub_step oM inv (by first|omega|(have hy0:=getD_out (l:=(wds b:List Nat)) (k:=i) (by first|omega|(simp;done));omega)))
 refine ⟨_,_,?_,⟨i+1,(l).set i s47,c48,h22,rfl,rfl,hs.to _ _,q55,q56,q57,q58,q59⟩,ka.to [(4,.pointer (some ⟨b7,0,none⟩)),(5,.bool false),(6,.slice (some ⟨bw1,0,none⟩) ((wds a).length) ((wds a).length)),(7,.slice (some ⟨bw2,0,none⟩) ((wds b).length) ((wds b).length)),(30,.int .i64 ((wds a).length:Nat)),(31,.int .i64 ((i+1):Nat)),(8,.int .u64 (c48:Nat))] kR⟩
 omega
end Go.Proofs.YtnbjahmpennmkaaGreatDoor
