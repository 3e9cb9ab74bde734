/- Laws and contracts that the card of this claim stands on, part 3. No condition of ours. -/
import Derived.Test.YthblejkgjjallaaGreatDoorPw0
import Derived.Test.YthblejkgjjallaaGreatDoorPw1
set_option maxRecDepth 100000
set_option maxHeartbeats 4000000
namespace Go.Proofs.YthblejkgjjallaaGreatDoor
open Go.RowKit
open Go.RowKit Go.Shelf
theorem nDivM (a b:Nat)(hb:0<b)(hla:(wds a).length≤1000000000)(hlb:(wds b).length≤1000000000)(has:18446744073709551616≤a)(hbs:b<18446744073709551616)(w:World)(h:Hp)(g:G w h):CV 146 #[nv a,nv b] w h (.tuple #[nv (a/b),nv (a%b),.bool true]):=by
 have hs:=sS g;have hnb0:=(nb_spec hb).2.2;have hbm0:=Nat.mod_eq_of_lt hbs;have hcl:=cmpN_ge (show b≤a by omega);refine go Tryz.func146 [(0,nv a),(1,nv b)] rfl (cSL (lA 2 36 (nc a) hs (fun b1 w2 h3 hs=>lA 3 36 (nc b) hs (fun b4 w5 h6 hs=>lA 4 36 ([uV 0,eS]) hs (fun b7 w8 h9 hs=>lA 5 36 ([uV 0,eS]) hs (fun za _ _ hs=>lL hs [.v 6 qF] (lNcQ (cSLlL hs [.o 11 (nv b) 2 0 2] (lCval 12 hs (nBits b hlb _ _ hs.g) (fun _ _ hs=>?_))))))))));have zb:(((nb b:Nat):Int) == (0:Int))=false:=beqF oM;have phb15:=neOfBeq zb;refine lB 13 zb (lNIF (cK (cQ (cSLlL hs [.v 16 (qP b1 1),.o 17 (.string (hi a)) 3 1 1] (lV 18 qF ?_ (hr:=rb kR (strN (hi_ne has))))))));refine lL hs [.m 19 18] (lG 20 ?_);refine lG 21 (lG 22 (lL hs [.v 23 qF] (lNIF (cK (cQ (cSLlL hs [.o 36 (nv a) 3 0 2,.o 37 (nv b) 2 0 2] (lCval 38 hs (nCmp a b hla hlb _ _ hs.g) (fun zd _ hs=>?_))))))));have ⟨zc,phb18⟩:=dF (p:=(cmpN a b:Int)<(0:Int)) oM;refine lB 39 zc (lNIF (cK (cQ (cSLlL hs [.v 42 (qP b4 1),.o 43 (.string (hi b)) 2 1 1] (lV 44 qT ?_ (hr:=rb kR (strE (hi_nil hbs))))))));refine lNIT (cQ ?_);obtain ⟨K_,hK_⟩:∃ K_,K_=zd.heap.size:=⟨_,rfl⟩;have hk_b10:za<K_:=by rw[hK_];exact zblk hs 0
 have hk_b7:b7<K_:=by rw[hK_];exact zblk hs 1
 have hk_b4:b4<K_:=by rw[hK_];exact zblk hs 2
 have hk_b1:b1<K_:=by rw[hK_];exact zblk hs 3
 refine cRa ⟨[],some (K_,[])⟩ 0 mixed ?_;have hszK:=hs.g.size;replace hs:=hs.drew;have hKl:=Nat.le_of_eq hK_;refine zO 0 46 [(3,0,2)] (nv a) rfl hKl hs (fun p hp=>by obtain rfl:=List.mem_singleton.1 hp;exact hk_b1) (zV 2 48 (pB b4) (zO 3 49 [(2,0,1)] (mV (b%18446744073709551616)) rfl hKl hs (fun p hp=>by obtain rfl:=List.mem_singleton.1 hp;exact hk_b4) (zCu 1 47 (nWords a oM oM _ _ hs.g) rfl hKl ?_)));rintro _ _ _ u21 hKl ⟨bw1,rfl,hlo1,hbc1,hsl1⟩;obtain ⟨_,hs,-,-⟩:=hs.take u21 hlo1 hbc1;replace hs:=hs.to [⟨bw1,34,(wds a).flatMap u64c⟩,⟨za,36,[uV 0,eS]⟩,⟨b7,36,[uV 0,eS]⟩,⟨b4,36,nc b⟩,⟨b1,36,nc a⟩] [];refine zCm 4 50 (nDivW bw1 (wds a) (wds a).length (b%18446744073709551616) oM oM (Wd.wds a) hla (nR _) _ _ hs.g (hs.own 0) (hs.jk 0)) rfl hKl oM ?_;rintro _ _ _ u25 hKl ⟨z,r,rfl,hzl,hWz,hVz,hrb,hOz⟩;replace hs:=(hs.stepM 0 u25 hOz).to [⟨bw1,34,(z).flatMap u64c⟩,⟨za,36,[uV 0,eS]⟩,⟨b7,36,[uV 0,eS]⟩,⟨b4,36,nc b⟩,⟨b1,36,nc a⟩] [];refine zV 5 45 (.tuple #[qS (sB bw1) (tl z z.length) ((wds a).length),mV r]) (zV 6 51 (qS (sB bw1) (tl z z.length) ((wds a).length)) (zV 7 52 (mV r) (zV 8 7 (qS (sB bw1) (tl z z.length) ((wds a).length)) (zV 9 8 (mV r) (tNS ?_)))));have hbm:=Nat.mod_eq_of_lt hbs;rw[wval_wds,hbm] at hVz
 rw[hbm] at hrb
 obtain ⟨hq1,hq2⟩:=quo_rem hVz hrb;have htz:=tl_le z z.length;have hQ:wval (z.take (tl z z.length))=a/b:=by have e:=bval_tl 18446744073709551616 z z.length (nR _);rw[List.take_length] at e;exact e.trans hq1
 obtain ⟨_,hs,sg27,lo28,bc29⟩:=hs.pub 0;replace hs:=(hs.to [⟨za,36,[uV 0,eS]⟩,⟨b7,36,[uV 0,eS]⟩,⟨b4,36,nc b⟩,⟨b1,36,nc a⟩] []).aS (SlO.of_flat (sz:=1) (f:=u64c) (d:=0) (b:=bw1) (o:=0) (l:=z) (fun _=>rfl) sg27);exact lL hs [.m 53 7] (lCval 54 hs (nFromE (sB bw1) ((wds a).length) (z.take (tl z z.length)) (tl z z.length) ((a/b)) (by first|rfl|assumption|(simp;done)|(simp;omega)|omega) (Dg.take hWz _) (hQ) sM sM _ _ hs.g ((hs.f.1).take _)) (fun _ _ hs=>lL hs [.m 55 8,.v 56 (.agg #[mV r,eS])] (lP 1 0 (nc (a/b)) hs (fun _ hs=>lP 0 0 ([mV r,eS]) hs (fun _ hs=>lL hs [.v 6 qT] (lNkXr hs [(1,0,2),(0,0,2)] (.tuple #[nv (a/b),.agg #[mV r,eS],qT]) (by rw[hq2,nv_lit (by have:=Nat.mod_lt a hb;omega)])))))))
theorem nDivL (a b:Nat)(hb:0<b)(hla:(wds a).length≤1000000000)(hlb:(wds b).length≤1000000000)(hab:b≤a)(has:18446744073709551616≤a)(hbs:18446744073709551616≤b)(w:World)(h:Hp)(g:G w h):CV 146 #[nv a,nv b] w h (.tuple #[nv (a/b),nv (a%b),.bool true]):=by
 have hs:=sS g;have hnb0:=(nb_spec hb).2.2;have hcl:=cmpN_ge hab;have hlm:=wds_len_mono hab;have hl2:=wds_len_big hbs;refine go Tryz.func146 [(0,nv a),(1,nv b)] rfl (cSL (lA 2 36 (nc a) hs (fun b1 w2 h3 hs=>lA 3 36 (nc b) hs (fun b4 w5 h6 hs=>lA 4 36 ([uV 0,eS]) hs (fun b7 w8 h9 hs=>lA 5 36 ([uV 0,eS]) hs (fun b10 _ _ hs=>lL hs [.v 6 qF] (lNcQ (cSLlL hs [.o 11 (nv b) 2 0 2] (lCval 12 hs (nBits b hlb _ _ hs.g) (fun _ _ hs=>?_))))))))));have za:(((nb b:Nat):Int) == (0:Int))=false:=beqF oM;have phb15:=neOfBeq za;refine lB 13 za (lNIF (cK (cQ (cSLlL hs [.v 16 (qP b1 1),.o 17 (.string (hi a)) 3 1 1] (lV 18 qF ?_ (hr:=rb kR (strN (hi_ne has))))))));refine lL hs [.m 19 18] (lG 20 ?_);refine lG 21 (lG 22 (lL hs [.v 23 qF] (lNIF (cK (cQ (cSLlL hs [.o 36 (nv a) 3 0 2,.o 37 (nv b) 2 0 2] (lCval 38 hs (nCmp a b hla hlb _ _ hs.g) (fun _ _ hs=>?_))))))));have ⟨zb,phb18⟩:=dF (p:=(cmpN a b:Int)<(0:Int)) oM;refine lB 39 zb (lNIF (cK (cQ (cSLlL hs [.v 42 (qP b4 1),.o 43 (.string (hi b)) 2 1 1] (lV 44 qF ?_ (hr:=rb kR (strN (hi_ne hbs))))))));refine lNIF (cK (cQ (cR 8 [] mixed hs al_nil ?_)));refine eO 0 58 [(3,0,2)] (nv a) hs (eO 2 60 [(2,0,2)] (nv b) hs (eC 1 59 hs (fun _ _ hs=>nWordsG a oM _ _ hs.g) ?_));rintro _ _ _ _ _ hs ⟨Aw1,cw1,rfl,hcw1,hw1⟩;replace hs:=hs.aS hw1;refine eC 3 61 hs (fun _ _ hs=>nWordsG b oM _ _ hs.g) ?_;rintro _ _ _ _ _ hs ⟨Aw2,cw2,rfl,hcw2,hw2⟩;replace hs:=hs.aS hw2;refine eC 4 62 hs (fun _ _ hs=>nDivWs Aw1 cw1 (wds a) Aw2 cw2 (wds b) (Wd.wds a) (Wd.wds b) hla oM oM (wds_last hb) _ _ hs.g hs.f.2.1 hs.f.1) ?_;rintro _ _ _ _ _ hs ⟨Aq,cq,q,Ar,cr,r,rfl,hcq,hcr,hWq,hWr,hVq,hVr,hlq,hlr,hFq,hFr⟩;replace hs:=hs.aP hFq hFr;exact eV 5 57 (.tuple #[qS Aq q.length cq,qS Ar r.length cr]) (eV 6 63 (qS Aq q.length cq) (eV 7 64 (qS Ar r.length cr) (eD0 hs (fun _ _ hs=>tV 8 9 (qS Aq q.length cq) (tV 9 10 (qS Ar r.length cr) (tNS (lL hs [.m 65 9] (lCval 66 hs (nFromE Aq cq (q) q.length ((a/b)) (by first|rfl|assumption|(simp;done)|(simp;omega)|omega) (hWq) (hVq.trans (by rw[wval_wds,wval_wds])) sM sM _ _ hs.g hs.f.2.1) (fun _ _ hs=>lL hs [.m 67 10] (lCval 68 hs (nFromE Ar cr (r) r.length ((a%b)) (by first|rfl|assumption|(simp;done)|(simp;omega)|omega) (hWr) (hVr.trans (by rw[wval_wds,wval_wds])) sM sM _ _ hs.g hs.f.1) (fun _ _ hs=>lP 1 0 (nc (a/b)) hs (fun _ hs=>lP 0 0 (nc (a%b)) hs (fun _ hs=>lL hs [.v 6 qT] (lNkXr hs [(1,0,2),(0,0,2)] (.tuple #[nv (a/b),nv (a%b),qT]) rfl))))))))))))))
theorem nDivN (a b:Nat)(hb:0<b)(hla:(wds a).length≤1000000000)(hlb:(wds b).length≤1000000000)(hab:a<b)(has:a<18446744073709551616)(hbs:18446744073709551616≤b)(w:World)(h:Hp)(g:G w h):CV 146 #[nv a,nv b] w h (.tuple #[nv (a/b),nv (a%b),.bool true]):=by
 have hs:=sS g;have hnb0:=(nb_spec hb).2.2;have hcl:=cmpN_lt hab;refine go Tryz.func146 [(0,nv a),(1,nv b)] rfl (cSL (lA 2 36 (nc a) hs (fun b1 w2 h3 hs=>lA 3 36 (nc b) hs (fun b4 w5 h6 hs=>lA 4 36 ([uV 0,eS]) hs (fun b7 w8 h9 hs=>lA 5 36 ([uV 0,eS]) hs (fun zc _ _ hs=>lL hs [.v 6 qF] (lNcQ (cSLlL hs [.o 11 (nv b) 2 0 2] (lCval 12 hs (nBits b hlb _ _ hs.g) (fun _ _ hs=>?_))))))))));have za:(((nb b:Nat):Int) == (0:Int))=false:=beqF oM;have phb15:=neOfBeq za;refine lB 13 za (lNIF (cK (cQ (cSLlL hs [.v 16 (qP b1 1),.o 17 (.string (hi a)) 3 1 1] (lV 18 qT ?_ (hr:=rb kR (strE (hi_nil has))))))));refine lL hs [.m 19 18,.v 20 (qP b4 1),.o 21 (.string (hi b)) 2 1 1] (lV 22 qF ?_ (hr:=rb kR (strN (hi_ne hbs))));refine lL hs [.v 23 qF] (lNIF (cK (cQ (cSLlL hs [.o 36 (nv a) 3 0 2,.o 37 (nv b) 2 0 2] (lCval 38 hs (nCmp a b hla hlb _ _ hs.g) (fun _ _ hs=>?_))))));have ⟨zb,phb18⟩:=dT (p:=(cmpN a b:Int)<(0:Int)) oM;refine lB 39 zb (lNIT (cQ ?_));have hsr:=hs;refine cRz 2 [] [b7,zc] mixed hs al_nil (eV 0 40 (.agg #[uV 0,eS]) (eOz 1 41 [(3,0,2)] (nv a) hsr hs ?_ (hM:=fun p hp=>by obtain rfl:=List.mem_singleton.1 hp;exact fun hm=>by rcases List.mem_cons.1 hm with e|hm;exact bx_ne hs.st (i:=3) (j:=1) kR kR kR e;rcases List.mem_cons.1 hm with e|hm;exact bx_ne hs.st (i:=3) (j:=0) kR kR kR e;cases hm)));refine eD0 hs (fun _ _ hs=>tP 2 1 0 ([uV 0,eS]) hs (fun _ hs=>?_) (hz:=tlz_mem (List.mem_cons_self)));refine tP 3 0 0 (nc a) hs (fun _ hs=>?_) (hz:=tlz_mem (List.mem_cons_of_mem _<|List.mem_cons_self));exact tV 4 6 qT (tN (kX (hs.ret [(1,0,2),(0,0,2)] (.tuple #[.agg #[uV 0,eS],nv a,qT]) (by have hab:a<b:=(by rcases Nat.lt_or_ge a b with h_|h_;exact h_;rcases cmpN_ge h_ with e|e<;>omega);rw[Nat.div_eq_of_lt hab,Nat.mod_eq_of_lt hab];rfl))))
theorem nDivO (a b:Nat)(hb:0<b)(hla:(wds a).length≤1000000000)(hlb:(wds b).length≤1000000000)(hab:a<b)(has:18446744073709551616≤a)(w:World)(h:Hp)(g:G w h):CV 146 #[nv a,nv b] w h (.tuple #[nv (a/b),nv (a%b),.bool true]):=by
 have hs:=sS g;have hnb0:=(nb_spec hb).2.2;have hcl:=cmpN_lt hab;refine go Tryz.func146 [(0,nv a),(1,nv b)] rfl (cSL (lA 2 36 (nc a) hs (fun b1 w2 h3 hs=>lA 3 36 (nc b) hs (fun b4 w5 h6 hs=>lA 4 36 ([uV 0,eS]) hs (fun b7 w8 h9 hs=>lA 5 36 ([uV 0,eS]) hs (fun zc _ _ hs=>lL hs [.v 6 qF] (lNcQ (cSLlL hs [.o 11 (nv b) 2 0 2] (lCval 12 hs (nBits b hlb _ _ hs.g) (fun _ _ hs=>?_))))))))));have za:(((nb b:Nat):Int) == (0:Int))=false:=beqF oM;have phb15:=neOfBeq za;refine lB 13 za (lNIF (cK (cQ (cSLlL hs [.v 16 (qP b1 1),.o 17 (.string (hi a)) 3 1 1] (lV 18 qF ?_ (hr:=rb kR (strN (hi_ne has))))))));refine lL hs [.m 19 18] (lG 20 ?_);refine lG 21 (lG 22 (lL hs [.v 23 qF] (lNIF (cK (cQ (cSLlL hs [.o 36 (nv a) 3 0 2,.o 37 (nv b) 2 0 2] (lCval 38 hs (nCmp a b hla hlb _ _ hs.g) (fun _ _ hs=>?_))))))));have ⟨zb,phb18⟩:=dT (p:=(cmpN a b:Int)<(0:Int)) oM;refine lB 39 zb (lNIT (cQ ?_));have hsr:=hs;refine cRz 2 [] [b7,zc] mixed hs al_nil (eV 0 40 (.agg #[uV 0,eS]) (eOz 1 41 [(3,0,2)] (nv a) hsr hs ?_ (hM:=fun p hp=>by obtain rfl:=List.mem_singleton.1 hp;exact fun hm=>by rcases List.mem_cons.1 hm with e|hm;exact bx_ne hs.st (i:=3) (j:=1) kR kR kR e;rcases List.mem_cons.1 hm with e|hm;exact bx_ne hs.st (i:=3) (j:=0) kR kR kR e;cases hm)));refine eD0 hs (fun _ _ hs=>tP 2 1 0 ([uV 0,eS]) hs (fun _ hs=>?_) (hz:=tlz_mem (List.mem_cons_self)));refine tP 3 0 0 (nc a) hs (fun _ hs=>?_) (hz:=tlz_mem (List.mem_cons_of_mem _<|List.mem_cons_self));exact tV 4 6 qT (tN (kX (hs.ret [(1,0,2),(0,0,2)] (.tuple #[.agg #[uV 0,eS],nv a,qT]) (by have hab:a<b:=(by rcases Nat.lt_or_ge a b with h_|h_;exact h_;rcases cmpN_ge h_ with e|e<;>omega);rw[Nat.div_eq_of_lt hab,Nat.mod_eq_of_lt hab];rfl))))
theorem nDiv (a b:Nat)(hb:0<b)(hla:(wds a).length≤1000000000)(hlb:(wds b).length≤1000000000)(w:World)(h:Hp)(g:G w h):CV 146 #[nv a,nv b] w h (.tuple #[nv (a/b),nv (a%b),.bool true]):=by
  rcases Nat.lt_or_ge a b with hab|hab
  · rcases Nat.lt_or_ge a 18446744073709551616 with h1|h1
    · rcases Nat.lt_or_ge b 18446744073709551616 with h2|h2
      · exact nDivS a b hb hla hlb h1 h2 w h g
      · exact nDivN a b hb hla hlb hab h1 h2 w h g
    · exact nDivO a b hb hla hlb hab h1 w h g
  · rcases Nat.lt_or_ge b 18446744073709551616 with h2|h2
    · rcases Nat.lt_or_ge a 18446744073709551616 with h1|h1
      · exact nDivS a b hb hla hlb h1 h2 w h g
      · exact nDivM a b hb hla hlb h1 h2 w h g
    · exact nDivL a b hb hla hlb hab oM h2 w h g
theorem iv_lit {z:Int}{b:Bool}{n:Nat}(hb:ineg z=b)(hn:iabs z=n):Value.agg #[.bool b,.int .u64 (lo n),.string (hi n)]=iv z:=by subst hb hn;rfl
theorem iv_sg {z:Int}{b:Bool}(hb:ineg z=b):iv z=Value.agg #[.bool b,.int .u64 (lo (iabs z)),.string (hi (iabs z))]:=(iv_lit hb rfl).symm
theorem mul_sg (x y:Int):sgn (ineg x != ineg y) (iabs x*iabs y)=x*y:=by
  rcases hx:ineg x with _|_<;>rcases hy:ineg y with _|_
  · have h1:=ineg_false hx
    have h2:=ineg_false hy;obtain ⟨a,rfl⟩:=Int.eq_ofNat_of_zero_le h1;obtain ⟨b,rfl⟩:=Int.eq_ofNat_of_zero_le h2
    simp[sgn,iabs,Int.mul_neg,Int.neg_mul,Int.neg_neg]
  · have h1:=ineg_false hx
    have h2:=ineg_true hy;obtain ⟨a,rfl⟩:=Int.eq_ofNat_of_zero_le h1;obtain ⟨b,hb⟩:=Int.eq_ofNat_of_zero_le (a:=-y) oM;obtain rfl:y = -b:=by omega
    simp[sgn,iabs,Int.mul_neg,Int.neg_mul,Int.neg_neg]
  · have h1:=ineg_true hx
    have h2:=ineg_false hy;obtain ⟨b,rfl⟩:=Int.eq_ofNat_of_zero_le h2;obtain ⟨a,ha⟩:=Int.eq_ofNat_of_zero_le (a:=-x) oM;obtain rfl:x = -a:=by omega
    simp[sgn,iabs,Int.mul_neg,Int.neg_mul,Int.neg_neg]
  · have h1:=ineg_true hx
    have h2:=ineg_true hy;obtain ⟨a,ha⟩:=Int.eq_ofNat_of_zero_le (a:=-x) oM;obtain ⟨b,hb⟩:=Int.eq_ofNat_of_zero_le (a:=-y) oM;obtain rfl:x = -a:=by omega
    obtain rfl:y = -b:=by omega
    simp[sgn,iabs,Int.mul_neg,Int.neg_mul,Int.neg_neg]
theorem wds_len_mul {a b:Nat}:(wds (a*b)).length≤(wds a).length+(wds b).length:=by
  refine dig_len_le kD ?_;rw[Nat.pow_add];have h1:=wds_lt_pow a;have h2:=wds_lt_pow b;exact Nat.lt_of_lt_of_le (Nat.mul_lt_mul'' h1 h2) (Nat.le_refl _)
theorem wds_len_le {a b k:Nat}(h:a≤b)(hb:(wds b).length≤k):(wds a).length≤k:=Nat.le_trans (wds_len_mono h) hb
theorem wFromF (a:Nat)(w:World)(h:Hp)(g:G w h):CV 47 #[.bool false,nv a] w h (iv (sgn false a)):=by
 have hs:=sS g;refine go Tryz.func47 [(0,qF),(1,nv a)] rfl (cSL (lA 3 36 (nc a) hs (fun b1 w2 h3 hs=>lA 4 38 ([qF,uV 0,eS]) hs (fun b4 w5 h6 hs=>lNcQ (cR 8 [] mixed hs al_nil ?_)))));exact eV 0 5 qF (eV 1 6 qF (eG 2 7 (eG 3 8 (eG 4 9 (eV 5 10 qF (eO 6 11 [(1,0,2)] (nv a) hs (eV 7 12 (wX qF a) (eD0 hs (fun w7 h8 hs=>tP 8 0 0 (wC qF a) hs (fun w9 hs=>tN (kX (hs.ret [(0,0,3)] (wX qF a) (iv_lit (by rw[ineg_sgn];rfl) (iabs_sgn _ _))))))))))))))
theorem wFromZ (hl:(wds 0).length≤1000000000)(w:World)(h:Hp)(g:G w h):CV 47 #[.bool true,nv 0] w h (iv (sgn true 0)):=by
 have hs:=sS g;have hn0:nb 0=0:=rfl;refine go Tryz.func47 [(0,qT),(1,nv 0)] rfl (cSL (lA 3 36 (nc 0) hs (fun b1 w2 h3 hs=>lA 4 38 ([qF,uV 0,eS]) hs (fun b4 w5 h6 hs=>lNcQ (cR 8 [] mixed hs al_nil ?_)))));refine eV 0 5 qT (eV 1 6 qT (eO 2 7 [(1,0,2)] (nv 0) hs (eO 6 11 [(1,0,2)] (nv 0) hs (eCval 3 8 hs (fun _ _ hs=>nBits 0 aM _ _ hs.g) (fun w7 h8 hs=>eV 4 9 qF ?_ (hv:=fun _=>rb (e:=decide ((0:Int)<((nb 0:Nat):Int))) kR (decide_eq_false oM)))))));exact eV 5 10 qF (eV 7 12 (wX qF 0) (eD0 hs (fun w9 _ hs=>tP 8 0 0 (wC qF 0) hs (fun _ hs=>tN (kX (hs.ret [(0,0,3)] (wX qF 0) (iv_lit (by rw[ineg_sgn];rfl) (iabs_sgn _ _))))))))
theorem wFromT (a:Nat)(ha:0<a)(hl:(wds a).length≤1000000000)(w:World)(h:Hp)(g:G w h):CV 47 #[.bool true,nv a] w h (iv (sgn true a)):=by
 have hs:=sS g;have hn0:=(nb_spec ha).2.2;refine go Tryz.func47 [(0,qT),(1,nv a)] rfl (cSL (lA 3 36 (nc a) hs (fun b1 w2 h3 hs=>lA 4 38 ([qF,uV 0,eS]) hs (fun b4 w5 h6 hs=>lNcQ (cR 8 [] mixed hs al_nil ?_)))));refine eV 0 5 qT (eV 1 6 qT (eO 2 7 [(1,0,2)] (nv a) hs (eO 6 11 [(1,0,2)] (nv a) hs (eCval 3 8 hs (fun _ _ hs=>nBits a aM _ _ hs.g) (fun w7 h8 hs=>eV 4 9 qT ?_ (hv:=fun _=>rb (e:=decide ((0:Int)<((nb a:Nat):Int))) kR (decide_eq_true oM)))))));exact eV 5 10 qT (eV 7 12 (wX qT a) (eD0 hs (fun w9 _ hs=>tP 8 0 0 (wC qT a) hs (fun _ hs=>tN (kX (hs.ret [(0,0,3)] (wX qT a) (iv_lit (by rw[ineg_sgn];simpa using ha) (iabs_sgn _ _))))))))
theorem wFrom (b:Bool)(a:Nat)(hl:(wds a).length≤1000000000)(w:World)(h:Hp)(g:G w h):CV 47 #[.bool b,nv a] w h (iv (sgn b a)):=by
  cases b
  · exact wFromF a w h g
  · rcases Nat.eq_zero_or_pos a with h0|h0
    · subst h0;exact wFromZ hl w h g
    · exact wFromT a h0 hl w h g
theorem wOfN (z:Int)(h0 : -9223372036854775808≤z)(hz:z<0)(w:World)(h:Hp)(g:G w h):CV 166 #[iV z] w h (iv z):=by
 have hs:=sS g;have hia:iabs z≤9223372036854775808:=by unfold iabs;omega
 refine go Tryz.func166 [(0,iV z)] rfl (cSL (lA 2 38 ([qF,uV 0,eS]) hs (fun b1 w2 h3 hs=>lNcQ (cSLlL hs [.m 3 0] ?_))));have ⟨hb4,phb4⟩:=dT (p:=(z:Int)<(0:Int)) oM;refine lB 4 hb4 (lNIT (cSLlL hs [.m 5 0] (lV 6 (mV (18446744073709551616-iabs z)) ?_ (hr:=rU (z) kR (by rw[IntKind.wrap_u64];unfold iabs;omega)))));refine lV 7 (mV (iabs z)) ?_ (hr:=rU ((0-((18446744073709551616-iabs z:Nat):Int))) kR (by rw[IntKind.wrap_u64];omega));exact lCval 8 hs (nOf (iabs z) oM _ _ hs.g) (fun w5 h6 hs=>lL hs [.v 9 (wX qT (iabs z))] (lP 0 0 (wC qT (iabs z)) hs (fun w7 hs=>lNkXr hs [(0,0,3)] (wX qT (iabs z)) (iv_lit (by simp[ineg,hz]) rfl))))
theorem wOfP (n:Nat)(h1:n<9223372036854775808)(w:World)(h:Hp)(g:G w h):CV 166 #[nV n] w h (iv (n:Int)):=by
 have hs:=sS g;refine go Tryz.func166 [(0,nV n)] rfl (cSL (lA 2 38 ([qF,uV 0,eS]) hs (fun b1 w2 h3 hs=>lNcQ (cSLlL hs [.m 3 0] ?_))));have ⟨hb4,phb4⟩:=dF (p:=(n:Int)<(0:Int)) oM;refine lB 4 hb4 (lNIF (cK (cSLlL hs [.m 10 0] (lV 11 (mV n) ?_ (hr:=rU ((n:Int)) kR (fitU64 oM oM))))));exact lCval 12 hs (nOf n oM _ _ hs.g) (fun w5 h6 hs=>lL hs [.v 13 (wX qF n)] (lP 0 0 (wC qF n) hs (fun w7 hs=>lNkXr hs [(0,0,3)] (wX qF n) (iv_lit (by simp[ineg]) (by simp[iabs])))))
theorem wOf (z:Int)(h0 : -9223372036854775808≤z)(h1:z≤9223372036854775807)(w:World)(h:Hp)(g:G w h):CV 166 #[iV z] w h (iv z):=by
  rcases Int.lt_or_le z 0 with hz|hz
  · exact wOfN z h0 hz w h g
  · obtain ⟨n,rfl⟩:=Int.eq_ofNat_of_zero_le hz
    exact wOfP n oM w h g
def cmpI(x y:Int):Int:=if x<y then -1 else if y<x then 1 else 0
theorem cmpI_lt {x y:Int}(h:x<y):cmpI x y = -1:=by simp[cmpI,h]
theorem cmpI_gt {x y:Int}(h:y<x):cmpI x y=1:=by unfold cmpI;rw[if_neg oM,if_pos h]
theorem cmpI_pp {x y:Int}(hx:0≤x)(hy:0≤y):cmpI x y=cmpN (iabs x) (iabs y):=by
  unfold cmpI cmpN iabs
  have e1:(x<y)=(x.natAbs<y.natAbs):=by apply propext;omega
  have e2:(y<x)=(y.natAbs<x.natAbs):=by apply propext;omega
  simp only[e1,e2]
theorem cmpI_nn {x y:Int}(hx:x<0)(hy:y<0):cmpI x y=cmpN (iabs y) (iabs x):=by
  unfold cmpI cmpN iabs
  have e1:(x<y)=(y.natAbs<x.natAbs):=by apply propext;omega
  have e2:(y<x)=(x.natAbs<y.natAbs):=by apply propext;omega
  simp only[e1,e2]
theorem wAbs (z:Int)(w:World)(h:Hp)(g:G w h):CV 76 #[iv z] w h (nv (iabs z)):=by
 have hs:=sS g;exact go Tryz.func76 [(0,iv z)] rfl (cSL (lA 1 38 (ic z) hs (fun b1 w2 h3 hs=>lA 2 36 ([uV 0,eS]) hs (fun b4 w5 h6 hs=>lNS (lL hs [.v 3 (qP b1 1),.o 4 (nv (iabs z)) 1 1 2] (lP 0 0 (nc (iabs z)) hs (fun w7 hs=>lNkXr hs [(0,0,2)] (nv (iabs z)) rfl)))))))
theorem wSignN (z:Int)(hz:ineg z=true)(w:World)(h:Hp)(g:G w h):CV 73 #[wX (.bool true) (iabs z)] w h (iV z.sign):=by
 have hs:=sS g;exact go Tryz.func73 [(0,wX qT (iabs z))] rfl (cSL (lA 1 38 (wC qT (iabs z)) hs (fun b1 w2 h3 hs=>lL hs [.v 2 (iV 0)] (lNcQ (kZ (cSLlL hs [.v 4 (pB b1),.o 5 qT 0 0 1,.m 3 5] (lNIT (cSLlL hs [.v 2 (iV (-1))] (lNkXr hs [] (iV (-1)) (by rw[Int.sign_eq_neg_one_of_neg (ineg_true hz)]))))))))))
theorem wSignP (z:Int)(hl:(wds (iabs z)).length≤1000000000)(hz:ineg z=false)(h0:0<iabs z)(w:World)(h:Hp)(g:G w h):CV 73 #[wX (.bool false) (iabs z)] w h (iV z.sign):=by
 have hs:=sS g;have hn0:=(nb_spec h0).2.2;refine go Tryz.func73 [(0,wX qF (iabs z))] rfl (cSL (lA 1 38 (wC qF (iabs z)) hs (fun b1 w2 h3 hs=>lL hs [.v 2 (iV 0)] (lNcQ (kZ (cSLlL hs [.v 4 (pB b1),.o 5 qF 0 0 1,.m 3 5] (lNIF (cSLlL hs [.v 7 (qP b1 1),.o 8 (nv (iabs z)) 0 1 2] (lCval 9 hs (nBits (iabs z) aM _ _ hs.g) (fun w4 h5 hs=>?_))))))))));have ⟨hb6,phb6⟩:=dT (p:=(0:Int)<((nb (iabs z):Nat):Int)) oM;exact lB 10 hb6 (lL hs [.m 6 10] (lNIT (cSLlL hs [.v 2 (iV 1)] (lNkXr hs [] (iV 1) (by rw[Int.sign_eq_one_of_pos (by have:=ineg_false hz;unfold iabs at h0;omega)])))))
theorem wSignZ (hl:(wds (iabs 0)).length≤1000000000)(w:World)(h:Hp)(g:G w h):CV 73 #[wX (.bool false) (iabs 0)] w h (iV 0):=by
 have hs:=sS g;have hn0:nb (iabs 0)=0:=rfl;refine go Tryz.func73 [(0,wX qF (iabs 0))] rfl (cSL (lA 1 38 (wC qF (iabs 0)) hs (fun b1 w2 h3 hs=>lL hs [.v 2 (iV 0)] (lNcQ (kZ (cSLlL hs [.v 4 (pB b1),.o 5 qF 0 0 1,.m 3 5] (lNIF (cSLlL hs [.v 7 (qP b1 1),.o 8 (nv (iabs 0)) 0 1 2] (lCval 9 hs (nBits (iabs 0) aM _ _ hs.g) (fun w4 h5 hs=>?_))))))))));have ⟨hb6,phb6⟩:=dF (p:=(0:Int)<((nb (iabs 0):Nat):Int)) oM;exact lB 10 hb6 (lL hs [.m 6 10] (lNIF (cK (cSLlL hs [.v 2 (iV 0)] (lNkXr hs [] (iV 0) rfl)))))
theorem wSign (z:Int)(hl:(wds (iabs z)).length≤1000000000)(w:World)(h:Hp)(g:G w h):CV 73 #[iv z] w h (iV z.sign):=by
  rcases hz:ineg z with _|_
  · rw[iv_sg hz]
    rcases Nat.eq_zero_or_pos (iabs z) with h0|h0
    · have:z=0:=by unfold iabs at h0;omega
      subst this;exact wSignZ hl w h g
    · exact wSignP z hl hz h0 w h g
  · rw[iv_sg hz];exact wSignN z hz w h g
theorem wNegF (z:Int)(hl:(wds (iabs z)).length≤1000000000)(hz:ineg z=false)(w:World)(h:Hp)(g:G w h):CV 74 #[wX (.bool false) (iabs z)] w h (iv (-z)):=by
 have hs:=sS g;exact go Tryz.func74 [(0,wX qF (iabs z))] rfl (cSL (lA 1 38 (wC qF (iabs z)) hs (fun b1 w2 h3 hs=>lA 2 38 ([qF,uV 0,eS]) hs (fun b4 w5 h6 hs=>lNS (lL hs [.v 3 (pB b1),.o 4 qF 1 0 1,.v 5 qT,.v 6 (qP b1 1),.o 7 (nv (iabs z)) 1 1 2] (lCval 8 hs (wFrom true (iabs z) aM _ _ hs.g) (fun w7 h8 hs=>lP 0 0 (ic (sgn true (iabs z))) hs (fun w9 hs=>lNkXr hs [(0,0,3)] (iv (sgn true (iabs z))) (by have e:=sgn_not z;rw[hz] at e;exact congrArg iv e)))))))))
theorem wNegT (z:Int)(hl:(wds (iabs z)).length≤1000000000)(hz:ineg z=true)(w:World)(h:Hp)(g:G w h):CV 74 #[wX (.bool true) (iabs z)] w h (iv (-z)):=by
 have hs:=sS g;exact go Tryz.func74 [(0,wX qT (iabs z))] rfl (cSL (lA 1 38 (wC qT (iabs z)) hs (fun b1 w2 h3 hs=>lA 2 38 ([qF,uV 0,eS]) hs (fun b4 w5 h6 hs=>lNS (lL hs [.v 3 (pB b1),.o 4 qT 1 0 1,.v 5 qF,.v 6 (qP b1 1),.o 7 (nv (iabs z)) 1 1 2] (lCval 8 hs (wFrom false (iabs z) aM _ _ hs.g) (fun w7 h8 hs=>lP 0 0 (ic (sgn false (iabs z))) hs (fun w9 hs=>lNkXr hs [(0,0,3)] (iv (sgn false (iabs z))) (by have e:=sgn_not z;rw[hz] at e;exact congrArg iv e)))))))))
theorem wNeg (z:Int)(hl:(wds (iabs z)).length≤1000000000)(w:World)(h:Hp)(g:G w h):CV 74 #[iv z] w h (iv (-z)):=by
  rcases hz:ineg z with _|_<;>rw[iv_sg hz]
  · exact wNegF z hl hz w h g
  · exact wNegT z hl hz w h g
theorem wCmpff (x y:Int)(hlx:(wds (iabs x)).length≤1000000000)(hly:(wds (iabs y)).length≤1000000000)(hx:ineg x=false)(hy:ineg y=false)(w:World)(h:Hp)(g:G w h):CV 67 #[wX (.bool false) (iabs x),wX (.bool false) (iabs y)] w h (iV (cmpI x y)):=by
 have hs:=sS g;refine go Tryz.func67 [(0,wX qF (iabs x)),(1,wX qF (iabs y))] rfl (cSL (lA 2 38 (wC qF (iabs x)) hs (fun b1 w2 h3 hs=>lA 3 38 (wC qF (iabs y)) hs (fun b4 w5 h6 hs=>lL hs [.v 4 (iV 0)] (lNcQ (kZ (cSLlL hs [.v 6 (pB b1),.o 7 qF 1 0 1,.m 8 7] (lG 9 ?_))))))));exact lG 10 (lL hs [.v 11 qF,.m 5 11] (lNIF (cSLlL hs [.v 18 (pB b1),.o 19 qF 1 0 1,.m 17 19] (lNIF (cSLlL hs [.v 21 (pB b4),.o 22 qF 0 0 1,.m 20 22] (lNIF (cK (cSLlL hs [.v 23 (qP b1 1),.o 24 (nv (iabs x)) 1 1 2,.v 25 (qP b4 1),.o 26 (nv (iabs y)) 0 1 2] (lCval 27 hs (nCmp (iabs x) (iabs y) aM aM _ _ hs.g) (fun w7 h8 hs=>lL hs [.m 4 27] (lNkXr hs [] (iV (cmpN (iabs x) (iabs y))) (by rw[cmpI_pp (ineg_false hx) (ineg_false hy)]))))))))))))
theorem wCmpft (x y:Int)(hlx:(wds (iabs x)).length≤1000000000)(hly:(wds (iabs y)).length≤1000000000)(hx:ineg x=false)(hy:ineg y=true)(w:World)(h:Hp)(g:G w h):CV 67 #[wX (.bool false) (iabs x),wX (.bool true) (iabs y)] w h (iV (cmpI x y)):=by
 have hs:=sS g;refine go Tryz.func67 [(0,wX qF (iabs x)),(1,wX qT (iabs y))] rfl (cSL (lA 2 38 (wC qF (iabs x)) hs (fun b1 w2 h3 hs=>lA 3 38 (wC qT (iabs y)) hs (fun b4 w5 h6 hs=>lL hs [.v 4 (iV 0)] (lNcQ (kZ (cSLlL hs [.v 6 (pB b1),.o 7 qF 1 0 1,.m 8 7] (lG 9 ?_))))))));exact lG 10 (lL hs [.v 11 qF,.m 5 11] (lNIF (cSLlL hs [.v 18 (pB b1),.o 19 qF 1 0 1,.m 17 19] (lNIF (cSLlL hs [.v 21 (pB b4),.o 22 qT 0 0 1,.m 20 22] (lNIT (cSLlL hs [.v 4 (iV 1)] (lNkXr hs [] (iV 1) (by rw[cmpI_gt (by have:=ineg_false hx;have:=ineg_true hy;omega)])))))))))
theorem wCmptf (x y:Int)(hlx:(wds (iabs x)).length≤1000000000)(hly:(wds (iabs y)).length≤1000000000)(hx:ineg x=true)(hy:ineg y=false)(w:World)(h:Hp)(g:G w h):CV 67 #[wX (.bool true) (iabs x),wX (.bool false) (iabs y)] w h (iV (cmpI x y)):=by
 have hs:=sS g;exact go Tryz.func67 [(0,wX qT (iabs x)),(1,wX qF (iabs y))] rfl (cSL (lA 2 38 (wC qT (iabs x)) hs (fun b1 w2 h3 hs=>lA 3 38 (wC qF (iabs y)) hs (fun b4 w5 h6 hs=>lL hs [.v 4 (iV 0)] (lNcQ (kZ (cSLlL hs [.v 6 (pB b1),.o 7 qT 1 0 1,.m 8 7,.v 9 (pB b4),.o 10 qF 0 0 1,.v 11 qF,.m 5 11] (lNIF (cSLlL hs [.v 18 (pB b1),.o 19 qT 1 0 1,.m 17 19] (lNIT (cSLlL hs [.v 4 (iV (-1))] (lNkXr hs [] (iV (-1)) (by rw[cmpI_lt (by have:=ineg_true hx;have:=ineg_false hy;omega)])))))))))))))
theorem wCmptt (x y:Int)(hlx:(wds (iabs x)).length≤1000000000)(hly:(wds (iabs y)).length≤1000000000)(hx:ineg x=true)(hy:ineg y=true)(w:World)(h:Hp)(g:G w h):CV 67 #[wX (.bool true) (iabs x),wX (.bool true) (iabs y)] w h (iV (cmpI x y)):=by
 have hs:=sS g;exact go Tryz.func67 [(0,wX qT (iabs x)),(1,wX qT (iabs y))] rfl (cSL (lA 2 38 (wC qT (iabs x)) hs (fun b1 w2 h3 hs=>lA 3 38 (wC qT (iabs y)) hs (fun b4 w5 h6 hs=>lL hs [.v 4 (iV 0)] (lNcQ (kZ (cSLlL hs [.v 6 (pB b1),.o 7 qT 1 0 1,.m 8 7,.v 9 (pB b4),.o 10 qT 0 0 1,.v 11 qT,.m 5 11] (lNIT (cSLlL hs [.v 12 (qP b4 1),.o 13 (nv (iabs y)) 0 1 2,.v 14 (qP b1 1),.o 15 (nv (iabs x)) 1 1 2] (lCval 16 hs (nCmp (iabs y) (iabs x) aM aM _ _ hs.g) (fun w7 h8 hs=>lL hs [.m 4 16] (lNkXr hs [] (iV (cmpN (iabs y) (iabs x))) (by rw[cmpI_nn (ineg_true hx) (ineg_true hy)])))))))))))))
theorem wCmp (x y:Int)(hlx:(wds (iabs x)).length≤1000000000)(hly:(wds (iabs y)).length≤1000000000)(w:World)(h:Hp)(g:G w h):CV 67 #[iv x,iv y] w h (iV (cmpI x y)):=by
  rcases hx:ineg x with _|_<;>rcases hy:ineg y with _|_<;>rw[iv_sg hx,iv_sg hy]
  · exact wCmpff x y hlx hly hx hy w h g
  · exact wCmpft x y hlx hly hx hy w h g
  · exact wCmptf x y hlx hly hx hy w h g
  · exact wCmptt x y hlx hly hx hy w h g
theorem wMulff (x y:Int)(hlx:(wds (iabs x)).length≤1000000000)(hly:(wds (iabs y)).length≤1000000000)(hls:(wds (iabs x*iabs y)).length≤1000000000)(hx:ineg x=false)(hy:ineg y=false)(w:World)(h:Hp)(g:G w h):CV 106 #[wX (.bool false) (iabs x),wX (.bool false) (iabs y)] w h (iv (x*y)):=by
 have hs:=sS g;have hx_:=ineg_false hx;have hy_:=ineg_false hy;refine go Tryz.func106 [(0,wX qF (iabs x)),(1,wX qF (iabs y))] rfl (cSL (lA 2 38 (wC qF (iabs x)) hs (fun b1 w2 h3 hs=>lA 3 38 (wC qF (iabs y)) hs (fun b4 w5 h6 hs=>lA 4 38 ([qF,uV 0,eS]) hs (fun b7 w8 h9 hs=>lNcQ (cR 11 [] mixed hs al_nil ?_))))));exact eV 0 5 (pB b1) (eO 1 6 [(2,0,1)] qF hs (eV 2 7 (pB b4) (eO 3 8 [(1,0,1)] qF hs (eV 4 9 qF (eV 5 10 (qP b1 1) (eO 6 11 [(2,1,2)] (nv (iabs x)) hs (eV 7 12 (qP b4 1) (eO 8 13 [(1,1,2)] (nv (iabs y)) hs (eCval 9 14 hs (fun _ _ hs=>nMul (iabs x) (iabs y) aM aM _ _ hs.g) (fun _ _ hs=>eCval 10 15 hs (fun _ _ hs=>wFrom false ((iabs x)*(iabs y)) aM _ _ hs.g) (fun _ _ hs=>eD0 hs (fun _ _ hs=>tP 11 0 0 (ic (sgn false ((iabs x)*(iabs y)))) hs (fun _ hs=>tN (kX (hs.ret [(0,0,3)] (iv (sgn false ((iabs x)*(iabs y)))) (by rw[←mul_sg x y,hx,hy];rfl))))))))))))))))
theorem wMulft (x y:Int)(hlx:(wds (iabs x)).length≤1000000000)(hly:(wds (iabs y)).length≤1000000000)(hls:(wds (iabs x*iabs y)).length≤1000000000)(hx:ineg x=false)(hy:ineg y=true)(w:World)(h:Hp)(g:G w h):CV 106 #[wX (.bool false) (iabs x),wX (.bool true) (iabs y)] w h (iv (x*y)):=by
 have hs:=sS g;have hx_:=ineg_false hx;have hy_:=ineg_true hy;refine go Tryz.func106 [(0,wX qF (iabs x)),(1,wX qT (iabs y))] rfl (cSL (lA 2 38 (wC qF (iabs x)) hs (fun b1 w2 h3 hs=>lA 3 38 (wC qT (iabs y)) hs (fun b4 w5 h6 hs=>lA 4 38 ([qF,uV 0,eS]) hs (fun b7 w8 h9 hs=>lNcQ (cR 11 [] mixed hs al_nil ?_))))));exact eV 0 5 (pB b1) (eO 1 6 [(2,0,1)] qF hs (eV 2 7 (pB b4) (eO 3 8 [(1,0,1)] qT hs (eV 4 9 qT (eV 5 10 (qP b1 1) (eO 6 11 [(2,1,2)] (nv (iabs x)) hs (eV 7 12 (qP b4 1) (eO 8 13 [(1,1,2)] (nv (iabs y)) hs (eCval 9 14 hs (fun _ _ hs=>nMul (iabs x) (iabs y) aM aM _ _ hs.g) (fun _ _ hs=>eCval 10 15 hs (fun _ _ hs=>wFrom true ((iabs x)*(iabs y)) aM _ _ hs.g) (fun _ _ hs=>eD0 hs (fun _ _ hs=>tP 11 0 0 (ic (sgn true ((iabs x)*(iabs y)))) hs (fun _ hs=>tN (kX (hs.ret [(0,0,3)] (iv (sgn true ((iabs x)*(iabs y)))) (by rw[←mul_sg x y,hx,hy];rfl))))))))))))))))
theorem wMultf (x y:Int)(hlx:(wds (iabs x)).length≤1000000000)(hly:(wds (iabs y)).length≤1000000000)(hls:(wds (iabs x*iabs y)).length≤1000000000)(hx:ineg x=true)(hy:ineg y=false)(w:World)(h:Hp)(g:G w h):CV 106 #[wX (.bool true) (iabs x),wX (.bool false) (iabs y)] w h (iv (x*y)):=by
 have hs:=sS g;have hx_:=ineg_true hx;have hy_:=ineg_false hy;refine go Tryz.func106 [(0,wX qT (iabs x)),(1,wX qF (iabs y))] rfl (cSL (lA 2 38 (wC qT (iabs x)) hs (fun b1 w2 h3 hs=>lA 3 38 (wC qF (iabs y)) hs (fun b4 w5 h6 hs=>lA 4 38 ([qF,uV 0,eS]) hs (fun b7 w8 h9 hs=>lNcQ (cR 11 [] mixed hs al_nil ?_))))));exact eV 0 5 (pB b1) (eO 1 6 [(2,0,1)] qT hs (eV 2 7 (pB b4) (eO 3 8 [(1,0,1)] qF hs (eV 4 9 qT (eV 5 10 (qP b1 1) (eO 6 11 [(2,1,2)] (nv (iabs x)) hs (eV 7 12 (qP b4 1) (eO 8 13 [(1,1,2)] (nv (iabs y)) hs (eCval 9 14 hs (fun _ _ hs=>nMul (iabs x) (iabs y) aM aM _ _ hs.g) (fun _ _ hs=>eCval 10 15 hs (fun _ _ hs=>wFrom true ((iabs x)*(iabs y)) aM _ _ hs.g) (fun _ _ hs=>eD0 hs (fun _ _ hs=>tP 11 0 0 (ic (sgn true ((iabs x)*(iabs y)))) hs (fun _ hs=>tN (kX (hs.ret [(0,0,3)] (iv (sgn true ((iabs x)*(iabs y)))) (by rw[←mul_sg x y,hx,hy];rfl))))))))))))))))
theorem wMultt (x y:Int)(hlx:(wds (iabs x)).length≤1000000000)(hly:(wds (iabs y)).length≤1000000000)(hls:(wds (iabs x*iabs y)).length≤1000000000)(hx:ineg x=true)(hy:ineg y=true)(w:World)(h:Hp)(g:G w h):CV 106 #[wX (.bool true) (iabs x),wX (.bool true) (iabs y)] w h (iv (x*y)):=by
 have hs:=sS g;have hx_:=ineg_true hx;have hy_:=ineg_true hy;refine go Tryz.func106 [(0,wX qT (iabs x)),(1,wX qT (iabs y))] rfl (cSL (lA 2 38 (wC qT (iabs x)) hs (fun b1 w2 h3 hs=>lA 3 38 (wC qT (iabs y)) hs (fun b4 w5 h6 hs=>lA 4 38 ([qF,uV 0,eS]) hs (fun b7 w8 h9 hs=>lNcQ (cR 11 [] mixed hs al_nil ?_))))));exact eV 0 5 (pB b1) (eO 1 6 [(2,0,1)] qT hs (eV 2 7 (pB b4) (eO 3 8 [(1,0,1)] qT hs (eV 4 9 qF (eV 5 10 (qP b1 1) (eO 6 11 [(2,1,2)] (nv (iabs x)) hs (eV 7 12 (qP b4 1) (eO 8 13 [(1,1,2)] (nv (iabs y)) hs (eCval 9 14 hs (fun _ _ hs=>nMul (iabs x) (iabs y) aM aM _ _ hs.g) (fun _ _ hs=>eCval 10 15 hs (fun _ _ hs=>wFrom false ((iabs x)*(iabs y)) aM _ _ hs.g) (fun _ _ hs=>eD0 hs (fun _ _ hs=>tP 11 0 0 (ic (sgn false ((iabs x)*(iabs y)))) hs (fun _ hs=>tN (kX (hs.ret [(0,0,3)] (iv (sgn false ((iabs x)*(iabs y)))) (by rw[←mul_sg x y,hx,hy];rfl))))))))))))))))
theorem wMul (x y:Int)(hl:(wds (iabs x)).length+(wds (iabs y)).length≤1000000000)(w:World)(h:Hp)(g:G w h):CV 106 #[iv x,iv y] w h (iv (x*y)):=by
  have hls:(wds (iabs x*iabs y)).length≤1000000000:=Nat.le_trans wds_len_mul oM
  rcases hx:ineg x with _|_<;>rcases hy:ineg y with _|_<;>rw[iv_sg hx,iv_sg hy]
  · exact wMulff x y oM oM hls hx hy w h g
  · exact wMulft x y oM oM hls hx hy w h g
  · exact wMultf x y oM oM hls hx hy w h g
  · exact wMultt x y oM oM hls hx hy w h g
theorem nBytes (n:Nat)(hl:(wds n).length≤1000000000)(w:World)(h:Hp)(g:G w h):CR 207 #[nv n] w h (fun v h1=>∃ A,v=.slice A ((nb n+7)/8) ((nb n+7)/8)∧SlO 1 u8c 0 h1 A (byt n ((nb n+7)/8))):=by
 have hs:=sS g;have hnb:=nb_len64 n;have hwl:=wds_len_nb n;refine go Tryz.func207 [(0,nv n)] rfl (cSL (lA 1 36 (nc n) hs (fun b1 w2 h3 hs=>lL hs [.v 2 (sZ)] (lNS (lL hs [.o 7 (nv n) 0 0 2] (lCval 8 hs (nBits n hl _ _ hs.g) (fun w4 h5 hs=>lIn 9 ((nb n:Nat)+7) ((nb n)+7) (lV 10 (nV (((nb n)+7)/8)) ?_ (hr:=rint (opQuo (t:=3) (u:=3) (x:=.tmp 9) (y:=.const (iV 8)) (k:=.i64) (a:=(((nb n)+7:Nat):Int)) (b:=(8:Int)) kR kR kR oM _) (quoI64 ((nb n)+7) 8 oM))))))))));refine lL hs [.m 3 10] (lNS (lL hs [.m 11 3] (lK 12 5 (((nb n)+7)/8:Nat) 1 1 (.int .u8 0) u8c 0 hs (fun b6 w7 h8 hs=>?_))));have hl9:(List.replicate (((nb n)+7)/8:Nat) 0).length=(((nb n)+7)/8:Nat):=by simp
 refine lL hs [.m 4 12] (lNS (lL hs [.o 13 (nv n) 1 0 2] (lC 14 hs (nWordsG n oM _ _ hs.g) ?_)));rintro _ _ zd hs ⟨Aw1,cw1,rfl,hcw1,hw1⟩;replace hs:=hs.aS hw1;refine lL hs [.m 5 14] (lNcQ (cSLlL hs [.m 15 3,.v 16 (iV 0)] (lNkZ ?_)));refine cTo _ (CG.loop (fun μ_ Γ w_=>∃ (i:Nat) (l:List Nat) (h_:Hp),μ_=((nb n+7)/8)-i∧Γ=[(2,sZ),(3,nV (((nb n)+7)/8)),(4,qS (sB b6) (((nb n)+7)/8:Nat) (((nb n)+7)/8:Nat)),(5,qS Aw1 ((wds n).length) cw1),(15,nV (((nb n)+7)/8)),(16,nV i)]∧SS w h w_ h_ [⟨b6,5,(l).flatMap u8c⟩,⟨b1,36,nc n⟩] [] [fun h_=>SlO 1 u64c 0 h_ Aw1 (wds n)]∧i≤((nb n+7)/8)∧l.length=((nb n+7)/8)∧(∀ j,j<i→l.getD (((nb n+7)/8)-1-j) 0=n/256^j%256)) _ ⟨0,List.replicate (((nb n)+7)/8:Nat) 0,zd,rfl,rfl,hs.to _ _,Nat.zero_le _,hl9,(fun j hj=>absurd hj oM)⟩ ?_);rintro _ _ _ ⟨i,l,ze,hm14,rfl,hs,hi,hll,hg⟩;have hwi:=wds_get n (i/8);refine cSL ?_;cases za:(decide ((i:Int)<((((nb n)+7)/8:Nat):Int)))
 ·
  have zb:=oF za;refine lB 17 za (lNcQ (cIF (CG.exit ?_)))
  show CG _ _ _ _ _ _ _ _
  refine cSLlL hs [.m 36 4,.m 2 36] (lN (kX ?_));have him:i=((nb n+7)/8):=by omega
  have hlb:l=byt n ((nb n+7)/8):=eq_byt hll (fun j hj=>hg j oM);rw[hlb] at hs
  obtain ⟨_,hs,sg17,lo18,bc19⟩:=hs.pub 0;replace hs:=(hs.to [⟨b1,36,nc n⟩] []).aS (SlO.of_flat (sz:=1) (f:=u8c) (d:=0) (b:=b6) (o:=0) (l:=byt n ((nb n+7)/8)) (fun _=>rfl) sg17);exact hs.ret [] (qS (sB b6) (((nb n)+7)/8:Nat) (((nb n)+7)/8:Nat)) (⟨sB b6,rfl,hs.f.1⟩)
 have zb:=oT za;refine lB 17 za (lNcQ (cIT (cK (cQ (kZ (cSLlL hs [.m 18 16,.m 6 18] (lN (kQ (lL hs [.m 19 4,.m 20 3] (lIn 21 ((((nb n)+7)/8:Nat)-1) ((((nb n)+7)/8:Nat)-1) ?_))))))))));refine lL hs [.m 22 6] (lIn 23 (((((nb n)+7)/8:Nat)-1:Nat)-(i:Nat)) (((((nb n)+7)/8:Nat)-1:Nat)-i) ?_);refine lL hs [.m 24 5,.m 25 6] (lV 26 (nV (i/8)) ?_ (hr:=rint (opQuo (t:=3) (u:=3) (x:=.tmp 25) (y:=.const (iV 8)) (k:=.i64) (a:=(i:Int)) (b:=(8:Int)) kR kR kR oM _) (quoI64 i 8 oM)));refine lX 27 Aw1 ((wds n).length) cw1 1 (i/8:Nat) (i/8) ((hs.f.1).ok oM) (lH 28 (mV ((wds n).getD (i/8) 0)) hs ((hs.f.1).el (i/8) oM) (lL hs [.m 29 6] (lV 30 (nV (i%8)) ?_ (hr:=rint (opRem (t:=3) (u:=3) (x:=.tmp 29) (y:=.const (iV 8)) (k:=.i64) (a:=(i:Int)) (b:=(8:Int)) kR kR kR oM _) (tmodNat i 8)))));refine lIn 31 (8*(i%8:Nat)) (8*(i%8)) (lV 32 (mV (((wds n).getD (i/8) 0)/2^(8*(i%8)))) ?_ (hr:=opShrN (t:=34) (u:=3) (x:=.tmp 28) (y:=.tmp 31) (ky:=.i64) (a:=((wds n).getD (i/8) 0)) (n:=(8*(i%8))) kR kR kR oM _));refine lV 33 (.int .u8 ((wds n).getD (i/8) 0/2^(8*(i%8))%256:Nat)) ?_ (hr:=rint (n:=IntKind.wrap .u8 (((wds n).getD (i/8) 0/2^(8*(i%8)):Nat):Int)) kR (wrU8 _));refine lX 34 (sB b6) (((nb n)+7)/8:Nat) (((nb n)+7)/8:Nat) 1 (((((nb n)+7)/8:Nat)-1:Nat)-i:Nat) (((((nb n)+7)/8:Nat)-1:Nat)-i:Nat) rfl (lW 0 l u8c 1 (((((nb n)+7)/8:Nat)-1:Nat)-i:Nat) ((wds n).getD (i/8) 0/2^(8*(i%8))%256:Nat) hs oM (fun _ hs=>?_));have zc:((l).set (((((nb n)+7)/8:Nat)-1:Nat)-i:Nat) ((wds n).getD (i/8) 0/2^(8*(i%8))%256:Nat)).length=(((nb n)+7)/8:Nat):=by rw[List.length_set];exact hll
 replace hs:=hs.to [⟨b6,5,((l).set (((((nb n)+7)/8:Nat)-1:Nat)-i:Nat) ((wds n).getD (i/8) 0/2^(8*(i%8))%256:Nat)).flatMap u8c⟩,⟨b1,36,nc n⟩] [];refine lN (kQ (lIn 35 ((i:Nat)+1) (i+1) ?_));refine lL hs [.m 16 35] (lD ?_);intro a_ ka;refine ⟨_,_,?_,⟨i+1,(l).set (((((nb n)+7)/8:Nat)-1:Nat)-i:Nat) ((wds n).getD (i/8) 0/2^(8*(i%8))%256:Nat),ze,rfl,rfl,hs.to _ _,oM,zc,(set_from_top hll oM hg (byte_wds n i))⟩,ka.to _ kR⟩
 omega
theorem nFromB (n m:Nat)(A:Option Addr)(c:Nat)(hc:m≤c)(hm:m≤10000000000)(hn:n<256^m)(w:World)(h:Hp)(g:G w h)(hA:SlO 1 u8c 0 h A (byt n m)):CV 78 #[.slice A m c] w h (nv n):=by
 have hs:=((sS g).aS hA);have hbl:=byt_len n m;refine go Tryz.func78 [(0,qS A m c)] rfl (cSL (lA 2 36 ([uV 0,eS]) hs (fun b1 w2 h3 hs=>lNS (lL hs [.m 5 0,.v 6 (nV m)] (lIn 7 ((m:Nat)+7) (m+7) ?_)))));refine lV 8 (nV ((m+7)/8)) ?_ (hr:=rint (opQuo (t:=3) (u:=3) (x:=.tmp 7) (y:=.const (iV 8)) (k:=.i64) (a:=((m+7:Nat):Int)) (b:=(8:Int)) kR kR kR oM _) (quoI64 (m+7) 8 oM));refine lK 9 34 ((m+7)/8) 1 8 (uV 0) u64c 0 hs (fun b4 w5 h6 hs=>?_);have hl7:(List.replicate ((m+7)/8) 0).length=((m+7)/8):=by simp
 refine lL hs [.m 3 9] (lNcQ (cSLlL hs [.m 10 0,.v 11 (nV m),.v 12 (iV 0)] (lNkZ ?_)));refine cTo _ (CG.loop (fun μ_ Γ w_=>∃ (i:Nat) (l:List Nat) (h_:Hp),μ_=m-i∧Γ=[(0,qS A m c),(2,pB b1),(3,qS (sB b4) ((m+7)/8) ((m+7)/8)),(11,nV m),(12,nV i)]∧SS w h w_ h_ [⟨b4,34,(l).flatMap u64c⟩,⟨b1,36,[uV 0,eS]⟩] [] [fun h_=>SlO 1 u8c 0 h_ A (byt n m)]∧i≤m∧l.length=(m+7)/8∧Wd l∧wval l=n%256^i) _ ⟨0,List.replicate ((m+7)/8) 0,h6,rfl,rfl,hs.to _ _,Nat.zero_le _,hl7,Wd.rep _,(by show bval _ _=_;rw[bval_rep,Nat.pow_zero,Nat.mod_one])⟩ ?_);rintro _ _ w8 ⟨i,l,h9,hm10,rfl,hs,hi,hll,hW,inv⟩;have hbi:=byt_getD_lt n m (m-1-i);refine cSL ?_;cases za:(decide ((i:Int)<(m:Int)))
 ·
  have zb:=oF za;refine lB 13 za (lNcQ (cIF (CG.exit ?_)))
  show CG _ _ _ _ _ _ _ _
  refine cSL ?_;have him:i=m:=by omega
  have hE:wval l=n:=by rw[inv,him];exact Nat.mod_eq_of_lt hn
  obtain ⟨_,hs,sg13,lo14,bc15⟩:=hs.pub 0;replace hs:=(hs.to [⟨b1,36,[uV 0,eS]⟩] []).aS (SlO.of_flat (sz:=1) (f:=u64c) (d:=0) (b:=b4) (o:=0) (l:=l) (fun _=>rfl) sg13);exact lL hs [.m 36 3] (lCval 37 hs (nFromE (sB b4) ((m+7)/8) (l) ((m+7)/8) (n) (by first|rfl|assumption|(simp;done)|(simp;omega)|omega) (hW) (hE) sM sM _ _ hs.g hs.f.1) (fun _ _ hs=>lP 0 0 (nc n) hs (fun _ hs=>lNkXr hs [(0,0,2)] (nv n) rfl)))
 have zb:=oT za;refine lB 13 za (lNcQ (cIT (cK (cQ (kZ (cSLlL hs [.m 14 12,.m 4 14] (lN (cR 19 [] mixed hs al_nil ?_))))))));refine eV 0 15 (qS (sB b4) ((m+7)/8) ((m+7)/8)) (eV 1 16 (nV i) (eV 2 17 (nV (i/8)) ?_ (hv:=fun _=>rint (opQuo (t:=3) (u:=3) (x:=.tmp 16) (y:=.const (iV 8)) (k:=.i64) (a:=(i:Int)) (b:=(8:Int)) kR kR kR oM _) (quoI64 i 8 oM))));refine eX 3 18 (sB b4) ((m+7)/8) ((m+7)/8) 1 (i/8:Nat) (i/8) rfl (eQ 4 19 0 l u64c 1 0 (i/8) (mV ((l).getD (i/8) 0)) hs oM (eV 5 20 (qS A m c) (eV 6 21 (qS A m c) (eV 7 22 (nV m) (eIn 8 23 ((m:Nat)-1) (m-1) (eV 9 24 (nV i) (eIn 10 25 ((m-1:Nat)-(i:Nat)) ((m-1)-i) (eX 11 26 A m c 1 ((m-1)-i:Nat) ((m-1)-i) ((hs.f.1).ok oM) (eH 12 27 (.int .u8 ((byt n m).getD ((m-1)-i) 0:Nat)) hs ((hs.f.1).el ((m-1)-i) oM) (eV 13 28 (mV ((byt n m).getD ((m-1)-i) 0)) ?_ (hv:=fun _=>rU ((((byt n m).getD ((m-1)-i) 0:Nat):Int)) kR (fitU64 oM oM))))))))))));refine eV 14 29 (nV i) (eV 15 30 (nV (i%8)) ?_ (hv:=fun _=>rint (opRem (t:=3) (u:=3) (x:=.tmp 29) (y:=.const (iV 8)) (k:=.i64) (a:=(i:Int)) (b:=(8:Int)) kR kR kR oM _) (tmodNat i 8)));refine eIn 16 31 (8*(i%8:Nat)) (8*(i%8)) (eV 17 32 (mV (((byt n m).getD ((m-1)-i) 0:Nat)*2^(8*(i%8))%18446744073709551616)) ?_ (hv:=fun _=>opShlN (t:=34) (u:=3) (x:=.tmp 28) (y:=.tmp 31) (ky:=.i64) (a:=((byt n m).getD ((m-1)-i) 0:Nat)) (n:=(8*(i%8))) kR kR kR _));obtain ⟨hS1,hS2,hS3⟩:=fb_step oM inv (show (byt n m).getD (m-1-i) 0=n/256^i%256 by rw[byt_get n m _ oM,show m-1-(m-1-i)=i by omega]);have hlg:=hW.get (i/8);refine eV 18 33 (mV (l.getD (i/8) 0+(byt n m).getD (m-1-i) 0*2^(8*(i%8)))) ?_ (hv:=fun _=>rint (opOr (t:=34) (u:=34) (x:=.tmp 19) (y:=.tmp 32) (a:=((l).getD (i/8) 0)) (b:=(((byt n m).getD ((m-1)-i) 0:Nat)*2^(8*(i%8))%18446744073709551616:Nat)) kR kR kR oM oM _) (by rw[hS1]));refine eD0 hs (fun _ zd hs=>tX 19 34 (sB b4) ((m+7)/8) ((m+7)/8) 1 (i/8:Nat) (i/8) rfl (tW 20 0 l u64c 1 (i/8) (l.getD (i/8) 0+(byt n m).getD (m-1-i) 0*2^(8*(i%8)):Nat) hs oM (fun _ hs=>?_)));have zc:((l).set (i/8) (l.getD (i/8) 0+(byt n m).getD (m-1-i) 0*2^(8*(i%8)):Nat)).length=((m+7)/8):=by rw[List.length_set];exact hll
 replace hs:=hs.to [⟨b4,34,((l).set (i/8) (l.getD (i/8) 0+(byt n m).getD (m-1-i) 0*2^(8*(i%8)):Nat)).flatMap u64c⟩,⟨b1,36,[uV 0,eS]⟩] [];refine tN (kQ (lIn 35 ((i:Nat)+1) (i+1) ?_));refine lL hs [.m 12 35] (lD ?_);intro a_ ka;refine ⟨_,_,?_,⟨i+1,(l).set (i/8) (l.getD (i/8) 0+(byt n m).getD (m-1-i) 0*2^(8*(i%8)):Nat),zd,rfl,rfl,hs.to _ _,oM,zc,(hW.set _ hS2),hS3⟩,ka.to _ kR⟩
 omega
theorem nShift (n k:Nat)(hl:(wds n).length≤1000000000)(hk:k≤65536)(w:World)(h:Hp)(g:G w h):CV 180 #[nv n,nV k] w h (nv (n*2^k)):=by
 have hs:=sS g;refine go Tryz.func180 [(0,nv n),(1,nV k)] rfl (cSL (lA 2 36 (nc n) hs (fun b1 w2 h3 hs=>lA 4 36 ([uV 0,eS]) hs (fun b4 w5 h6 hs=>lNS (lL hs [.m 5 1] (lV 6 (nV k) ?_ (hr:=rint (n:=if (65536:Int)<(k:Int) then (65536:Int) else (k:Int)) kR (if_neg oM))))))));refine lV 7 (nV k) ?_ (hr:=rint (n:=if (k:Int)>(-65536:Int) then (k:Int) else (-65536:Int)) kR (if_pos oM));refine lL hs [.m 1 7] (lNcQ (cSLlL hs [.m 8 1] ?_));have ⟨hb7,phb7⟩:=dF (p:=(k:Int)<(0:Int)) oM;refine lB 9 hb7 (lNIF (cK (cSLlL hs [.o 16 (nv n) 1 0 2] (lC 17 hs (nWordsG n oM _ _ hs.g) ?_))));rintro _ w8 h9 hs ⟨Aw1,cw1,rfl,hcw1,hw1⟩;replace hs:=hs.aS hw1;refine lL hs [.m 18 1] (lC 19 hs (nShUp Aw1 cw1 (wds n) (Wd.wds n) hl k oM _ _ hs.g hs.f.1) ?_);rintro _ _ _ hs ⟨Az,cz,z,rfl,hcz,hlz,hWz,hVz,hz⟩;replace hs:=hs.aS hz;exact lCval 20 hs (nFromE Az cz (z) z.length ((n*2^k)) (by first|rfl|assumption|(simp;done)|(simp;omega)|omega) (hWz) (by rw[hVz,wval_wds]) sM sM _ _ hs.g hs.f.1) (fun _ _ hs=>lP 0 0 (nc (n*2^k)) hs (fun _ hs=>lNkXr hs [(0,0,2)] (nv (n*2^k)) rfl))
section
variable {P:Program} {Γ:Env} {o:Oper}
theorem ixArr {t e:TypeId}{x ix:Operand}{b off sz len:Nat}{i:Int}{kk:IntKind}(k:Nat)(ho:o.op=.indexAddr t x ix)(hx:ev Γ x=.pointer (some ⟨b,off,none⟩))(hi:ev Γ ix=.int kk i)
    (hu:P.underlying t=some (.array len e))(hs:(P.info? e).map (·.size)=some sz)(hk:i=k)(hlt:k<len)(w:World) :
    (execOp (ev Γ) o).run P w=.ok (.value (.pointer (some ⟨b,off+k*sz,none⟩))) w:=by
  subst hk
  unfold execOp
  simp only[ho]
  rw[hx,hi];have hel:P.elem t=e:=by unfold Program.elem;rw[hu]
  have hln:P.arrayLen t=len:=by unfold Program.arrayLen;rw[hu]
  have h1:=run_indexAt_array (P:=P) w t ⟨b,off,none⟩ kk (k:Int) (by rw[hel,hln];exact hu);rw[hln,if_pos ⟨by omega,by omega⟩,hel] at h1
  have h2:(sizeOf e).run P w=.ok sz w:=by
    cases hi2:P.info? e with
    | none=>rw[hi2] at hs;cases hs
    | some i =>
      rw[hi2] at hs
      simp at hs
      simp[sizeOf,typeInfo,hi2,hs]
  rw[h2] at h1
  simp[h1,Result.andThen,Addr.add]
end
def Tz (n k m:Nat):Prop:=n=2^k*m∧m%2=1
theorem ctz_Tz {x:Nat}(h0:x≠0)(h:x<18446744073709551616):∃ m,Tz x (Lib.ctz 64 x) m∧Lib.ctz 64 x<64:=by
  unfold Lib.ctz
  rw[if_neg h0];obtain ⟨m,e,hl⟩:=Lib.ctzFrom_spec 64 x oM h;exact ⟨2*m+1,⟨e,by omega⟩,hl⟩
theorem Tz.odd_pos {n k m:Nat}(h:Tz n k m):0<m:=by have:=h.2;omega
theorem Tz.word {n i x k m r:Nat}(e:n=18446744073709551616^i*(x+18446744073709551616*r))(t:Tz x k m)(hk:k<64):Tz n (64*i+k) (m+2^(64-k)*r):=by
  obtain ⟨t1,t2⟩:=t;refine ⟨?_,?_⟩
  · have e64:(18446744073709551616:Nat)=2^k*2^(64-k):=by rw[←Nat.pow_add,show k+(64-k)=64 by omega]
    have e1:(18446744073709551616:Nat)^i=2^(64*i):=by rw[Nat.pow_mul]
    rw[e,e1,t1]
    conv=>lhs;rw[e64]
    rw[Nat.pow_add,Nat.mul_assoc (2^k),←Nat.mul_add,←Nat.mul_assoc]
  · obtain ⟨j,hj⟩:∃ j,64-k=j+1:=⟨63-k,by omega⟩
    rw[hj,Nat.pow_succ,Nat.mul_comm (2^j) 2,Nat.mul_assoc]
    omega
theorem Tz.uniq {n k m k' m':Nat}(a:Tz n k m)(b:Tz n k' m'):k=k'∧m=m':=by
  obtain ⟨a1,a2⟩:=a;obtain ⟨b1,b2⟩:=b
  have key:∀ {k m k' m':Nat},2^k*m=2^k'*m'→m%2=1→k'≤k:=fun {k m k' m'} e hm'=>by
    rcases Nat.lt_or_ge k k' with h|h
    · exfalso
      obtain ⟨d,rfl⟩:∃ d,k'=k+(d+1):=⟨k'-k-1,by omega⟩;rw[Nat.pow_add,Nat.mul_assoc] at e
      have e2:=Nat.eq_of_mul_eq_mul_left (Nat.two_pow_pos k) e;rw[Nat.pow_succ,Nat.mul_comm (2^d) 2,Nat.mul_assoc] at e2
      omega
    · exact h
  have h1:=key (a1.symm.trans b1) a2;have h2:=key (b1.symm.trans a1) b2;have h3:k=k':=by omega
  subst h3;exact ⟨rfl,Nat.eq_of_mul_eq_mul_left (Nat.two_pow_pos k) (a1.symm.trans b1)⟩
theorem gcd_two_left {x y:Nat}(hy:y%2=1):Nat.gcd (2*x) y=Nat.gcd x y:=by
  have hc:Nat.Coprime 2 y:=by
    unfold Nat.Coprime
    rw[Nat.gcd_rec,hy];rfl
  exact hc.gcd_mul_left_cancel x
theorem gcd_pow_left {x y:Nat}(hy:y%2=1):∀ k,Nat.gcd (2^k*x) y=Nat.gcd x y
  | 0=>by simp
  | k+1=>by
    rw[Nat.pow_succ,Nat.mul_comm (2^k) 2,Nat.mul_assoc,gcd_two_left hy];exact gcd_pow_left hy k
theorem gcd_twos {x y k l m n:Nat}(a:Tz x k m)(b:Tz y l n):Nat.gcd x y=Nat.gcd m n*2^min k l:=by
  obtain ⟨a1,a2⟩:=a;obtain ⟨b1,b2⟩:=b;subst a1 b1
  rcases Nat.le_total k l with h|h
  · rw[Nat.min_eq_left h]
    obtain ⟨d,rfl⟩:∃ d,l=k+d:=⟨l-k,by omega⟩;rw[Nat.pow_add,Nat.mul_assoc,Nat.gcd_mul_left,Nat.gcd_comm m,gcd_pow_left a2,Nat.gcd_comm n,Nat.mul_comm]
  · rw[Nat.min_eq_right h]
    obtain ⟨d,rfl⟩:∃ d,k=l+d:=⟨k-l,by omega⟩;rw[Nat.pow_add,Nat.mul_assoc,Nat.gcd_mul_left,gcd_pow_left b2,Nat.mul_comm]
theorem gcd_sub {x y k m:Nat}(hxy:y<x)(hy:y%2=1)(t:Tz (x-y) k m):Nat.gcd m y=Nat.gcd x y:=by
  rw[←gcd_pow_left hy k,←t.1];have e:=Nat.gcd_add_self_left (m:=y) (n:=x-y);rw[show x-y+y=x by omega] at e
  exact e.symm
theorem SlO.win {α:Type}{f:α→List Value}{d:α}{h:Hp}{b:Nat}{l:List α}(hf:∀ x,(f x).length=1)(sg:Seg h b 0 (l.flatMap f))(o n:Nat):SlO 1 f d h (some ⟨b,o,none⟩) ((l.drop o).take n):=by
  have hp:=sg.part o ((l.drop o).take n).length;rw[Nat.zero_add] at hp
  have e:∀ (l:List α) (o n:Nat),((l.flatMap f).drop o).take ((l.drop o).take n).length=((l.drop o).take n).flatMap f:=by
    have e1:∀ (l:List α),(l.flatMap f).length=l.length:=fun l=>by
      induction l with
      | nil=>rfl
      | cons x l ih=>rw[List.flatMap_cons,List.length_append,hf,ih,List.length_cons];omega
    have ed:∀ (l:List α) (o:Nat),(l.flatMap f).drop o=(l.drop o).flatMap f:=fun l=>by
      induction l with
      | nil=>intro o;simp
      | cons x l ih =>
        intro o;cases o with
        | zero=>rfl
        | succ o =>
          rw[List.flatMap_cons,List.drop_append,hf,List.drop_eq_nil_of_le (by rw[hf];omega),List.nil_append,List.drop_succ_cons,Nat.add_sub_cancel];exact ih o
    have et:∀ (l:List α) (n:Nat),(l.flatMap f).take n=(l.take n).flatMap f:=fun l=>by
      induction l with
      | nil=>intro n;simp
      | cons x l ih =>
        intro n;cases n with
        | zero=>rfl
        | succ n =>
          rw[List.flatMap_cons,List.take_append,hf,List.take_of_length_le (by rw[hf];omega),List.take_succ_cons,List.flatMap_cons,Nat.add_sub_cancel,ih n]
    intro l o n;rw[ed,et,List.length_take]
    congr 1
    rcases Nat.le_total n (l.drop o).length with h|h
    · rw[Nat.min_eq_left h]
    · rw[Nat.min_eq_right h,List.take_length,List.take_of_length_le h]
  rw[e] at hp
  exact SlO.of_flat hf hp
def Tab (h:Hp):Prop:=Seg h 4 0 (Lib.deBruijn64tab.map fun k=>Value.int .u8 ((k:Nat):Int))
theorem Tab.gw {h h':Hp}(t:Tab h)(u:Gw h h'):Tab h':=Seg.gw t u
theorem SS.aB {w0 w:World}{h0 h:Hp}{B:List Bx}{R:List Rw}{F:List (Hp→Prop)}(s:SS w0 h0 w h B R F)(p:Tab h):SS w0 h0 w h B R ((fun h=>Tab h)::F):=s.add (K:=fun h=>Tab h) p
theorem Tab.at {h:Hp}(t:Tab h){k i:Nat}(e:i<64∧Lib.deBruijn64tab.getD i 0=k):Seg h 4 i [.int .u8 ((k:Nat):Int)]:=by
  have hp:=Seg.part t i 1;obtain ⟨hi,rfl⟩:=e;rw[Nat.zero_add] at hp
  have hl:i<Lib.deBruijn64tab.length:=by show i<64;exact hi
  have e1:((Lib.deBruijn64tab.map fun k=>Value.int .u8 ((k:Nat):Int)).drop i).take 1=[.int .u8 ((Lib.deBruijn64tab.getD i 0:Nat):Int)]:=by
    rw[List.drop_eq_getElem_cons (by simpa using hl)]
    simp[hl]
  rw[e1] at hp
  exact hp
theorem ptrE {s:Result Next}{b z:Nat}{w:World}(h:s=.ok (.value (.pointer (some ⟨b,0+z*1,none⟩))) w):s=.ok (.value (.pointer (some ⟨b,z,none⟩))) w:=by rw[h,Nat.mul_one,Nat.zero_add]
theorem wds_full {l:List Nat}(hW:Wd l)(hl:l.length≤(wds (wval l)).length):wds (wval l)=l:=by
  have e:=wds_of hW;have h1:(wds (wval l)).length=min (tl l l.length) l.length:=by rw[e,List.length_take]
  have h2:=tl_le l l.length;rw[e,List.take_of_length_le oM]
theorem w256 {l:List Nat}(hW:Wd l):wval l<256^(8*l.length):=by
  have:=bval_lt hW;rw[Nat.pow_mul];exact this
theorem wds_eq {a b:Nat}(h:wds a=wds b):a=b:=by rw[←wval_wds a,←wval_wds b,h]
theorem row_zero {l:List Nat}{i:Nat}(h:i<l.length)(h0:l.getD i 0=0){n:Nat}(inv:n=18446744073709551616^i*bval 18446744073709551616 (l.drop i)):n=18446744073709551616^(i+1)*bval 18446744073709551616 (l.drop (i+1)):=by
  rw[inv,bval_drop _ h,h0,Nat.zero_add,Nat.pow_succ,Nat.mul_assoc]
theorem bTz64 (x:Nat)(hx0:x≠0)(hx:x<18446744073709551616)(w:World)(h:Hp)(g:G w h)(tb:Tab h):CV 208 #[mV x] w h (nV (Lib.ctz 64 x)):=by
 have hs:=((sS g).aB tb);obtain ⟨hlow,hk⟩:=Lib.lowest_bit 64 x hx0 hx;have htz:=Lib.deBruijn64_at _ hk
 generalize Lib.ctz 64 x=k at *
 generalize hp:2^k=p at *
 obtain ⟨y,hy⟩:∃ y,p*285870213051353865%18446744073709551616=y:=⟨_,rfl⟩;rw[hy] at htz
 obtain ⟨z,hz⟩:∃ z,y/288230376151711744=z:=⟨_,rfl⟩;rw[hz] at htz
 refine go Tryz.func208 [(0,mV x)] rfl (cSLlL hs [.v 2 (iV 0)] (lNcQ (cSLlL hs [.m 3 0] ?_)));have hb1:((x:Int) == (0:Int))=false:=beqF oM;have phb1:=neOfBeq hb1;refine lB 4 hb1 (lNIF (cK (cSLlL hs [.m 5 0,.m 6 0] (lV 7 (mV (18446744073709551616-x)) ?_ (hr:=rU ((0-(x:Int))) kR (by rw[IntKind.wrap_u64];omega))))));refine lV 8 (mV p) ?_ (hr:=rint (n:=bits .and .u64 (x:Int) ((18446744073709551616-x:Nat):Int)) kR (by rw[bits_and_u64_nat _ _ hx oM];exact congrArg _ hlow));refine lV 9 (mV y) ?_ (hr:=rU (((p:Int)*285870213051353865)) kR ((wMU64 p 285870213051353865).trans (congrArg _ hy)));refine lV 10 (mV z) ?_ (hr:=rint (opShrN (t:=34) (u:=126) (x:=.tmp 9) (y:=.const (uV 58)) (ky:=.u64) (a:=y) (n:=58) kR kR kR oM _) (congrArg _ (by rw[show (2:Nat)^58=288230376151711744 from rfl];exact hz)));refine lV 11 (qP 4 z) ?_ (hr:=ptrE (ixArr (t:=255) (e:=5) (x:=.global 4) (ix:=.tmp 10) (b:=4) (off:=0) (sz:=1) (len:=64) (kk:=.u64) (i:=(z:Int)) z kR kR kR kR kR rfl htz.1 _));refine lH 12 (.int .u8 (k:Int)) hs (Tab.at hs.f.1 htz) (lV 13 (nV k) ?_ (hr:=rS ((k:Int)) kR (fitI64 oM oM)));exact lL hs [.m 2 13] (lNkXr hs [] (nV k) rfl)
theorem wZeros (A:Option Addr)(c:Nat)(l:List Nat)(n:Nat)(hn:l.length=n)(hW:Wd l)(hp:0<wval l)(hl:l.length≤1000000000)(w:World)(h:Hp)(g:G w h)(tb:Tab h)(hA:SlO 1 u64c 0 h A l):CR 175 #[.slice A n c] w h (fun v _=>∃ k m:Nat,v=nV k∧Tz (wval l) k m∧k/64<l.length):=by
 have hs:=(((sS g).aB tb).aS hA);refine go Tryz.func175 [(0,qS A n c)] rfl (cSLlL hs [.v 2 (iV 0)] (lNS (lL hs [.v 3 (iV 0)] (lNcQ (kZ ?_)))));refine cTo _ (CG.loop (fun μ_ Γ w_=>∃ (i:Nat) (h_:Hp),μ_=l.length-i∧Γ=[(0,qS A n c),(2,iV 0),(3,nV i)]∧SS w h w_ h_ [] [] [fun h_=>SlO 1 u64c 0 h_ A l,fun h_=>Tab h_]∧i≤l.length∧wval l=18446744073709551616^i*bval 18446744073709551616 (l.drop i)) _ ⟨0,h,rfl,rfl,hs.to _ _,Nat.zero_le _,(by show bval _ _=_;rw[Nat.pow_zero,Nat.one_mul,List.drop_zero])⟩ ?_);rintro _ _ w1 ⟨i,h2,hm3,rfl,hs,hi,inv⟩;have hil:i<l.length:=by rcases Nat.lt_or_ge i l.length with h_|h_;exact h_;rw[List.drop_eq_nil_of_le h_] at inv;simp[bval] at inv;omega
 refine cQ (cSLlL hs [.m 4 0,.m 5 3] (lX 6 A n c 1 (i:Nat) i ((hs.f.1).ok oM) ?_));refine lH 7 (mV (l.getD i 0)) hs ((hs.f.1).el i oM) ?_;cases hb4:(((l.getD i 0:Nat):Int) == (0:Int))
 ·
  have phb4:=neOfBeq hb4;refine lB 8 hb4 (lNIF (CG.exit ?_))
  show CG _ _ _ _ _ _ _ _
  refine cSLlL hs [.m 11 3] (lI 12 (64*(i:Nat)) ?_);refine lL hs [.m 13 0,.m 14 3] (lX 15 A n c 1 (i:Nat) i ((hs.f.1).ok oM) ?_);refine lH 16 (mV (l.getD i 0)) hs ((hs.f.1).el i oM) (lCval 17 hs (bTz64 (l.getD i 0) oM (hW.get i) _ _ hs.g hs.f.2.1) (fun w5 h6 hs=>?_));obtain ⟨mz,htz,hz64⟩:=ctz_Tz (x:=l.getD i 0) oM (hW.get i);exact lI 18 ((64*(i:Nat))+(Lib.ctz 64 (l.getD i 0):Nat)) (lL hs [.m 2 18] (lNkXr hs [] (iV ((64*(i:Nat))+(Lib.ctz 64 (l.getD i 0):Nat))) (⟨_,_,rfl,Tz.word (by rw[inv,bval_drop _ hil]) htz hz64,by omega⟩)))
 have phb4:=eq_of_beq hb4;refine lB 8 hb4 (lNIT (cK (kZ (kQ (lL hs [.m 9 3] (lIn 10 ((i:Nat)+1) (i+1) ?_))))));refine lL hs [.m 3 10] (lD ?_);intro a_ ka;refine ⟨_,_,?_,⟨i+1,h2,rfl,rfl,hs.to _ _,oM,(row_zero hil oM inv)⟩,ka.to _ kR⟩
 omega
theorem wTrim (A:Option Addr)(c:Nat)(l:List Nat)(n:Nat)(hn:l.length=n)(hl:l.length≤1099511627776)(hc:l.length≤c)(w:World)(h:Hp)(g:G w h)(hA:SlO 1 u64c 0 h A l):CV 209 #[.slice A n c] w h (.slice A (tl l n) c):=by
 have hs:=((sS g).aS hA);refine go Tryz.func209 [(0,qS A n c)] rfl (cSLlL hs [.v 2 (sZ)] (lNcQ (kZ ?_)));refine cTo _ (CG.loop (fun μ_ Γ w_=>∃ (m:Nat) (h_:Hp),μ_=m∧Γ=[(2,sZ),(0,qS A m c)]∧SS w h w_ h_ [] [] [fun h_=>SlO 1 u64c 0 h_ A l]∧m≤n∧tl l n=tl l m) _ ⟨n,h,rfl,rfl,hs.to _ _,nR _,rfl⟩ ?_);rintro _ _ w1 ⟨m,h2,hm3,rfl,hs,hm,ht⟩;refine cQ (cSLlL hs [.m 3 0,.v 4 (nV m)] ?_);cases hb4:(decide ((0:Int)<(m:Int)))
 ·
  have phb4:=oF hb4;refine lB 5 hb4 (lL hs [.m 6 5] (lG 7 ?_));refine lG 8 (lG 9 (lG 10 (lG 11 (lG 12 (lG 13 (lL hs [.v 14 qF] (lNIF (CG.exit ?_))))))))
  show CG _ _ _ _ _ _ _ _
  exact cSLlL hs [.m 20 0,.m 2 20] (lNkXr hs [] (qS A m c) (by rw[ht,tl_at oM]))
 have phb4:=oT hb4;refine lB 5 hb4 (lL hs [.m 6 5,.m 7 0,.m 8 0,.v 9 (nV m)] (lIn 10 ((m:Nat)-1) (m-1) ?_));refine lX 11 A m c 1 (m-1:Nat) (m-1) ((hs.f.1).ok oM) (lH 12 (mV (l.getD (m-1) 0)) hs ((hs.f.1).el (m-1) oM) ?_);cases hb5:(((l.getD (m-1) 0:Nat):Int) == (0:Int))
 ·
  have phb5:=neOfBeq hb5;refine lB 13 hb5 (lL hs [.v 14 qF] (lNIF (CG.exit ?_)))
  show CG _ _ _ _ _ _ _ _
  exact cSLlL hs [.m 20 0,.m 2 20] (lNkXr hs [] (qS A m c) (by rw[ht,tl_at oM]))
 have phb5:=eq_of_beq hb5;refine lB 13 hb5 (lL hs [.v 14 qT] (lNIT (cK (kZ (kQ (lL hs [.m 15 0,.m 16 0,.v 17 (nV m)] (lIn 18 ((m:Nat)-1) (m-1) ?_)))))));refine lT 19 A m c 1 (m-1:Nat) (m-1) (lL hs [.m 0 19] (lD ?_));intro a_ ka;refine ⟨_,_,?_,⟨m-1,h2,rfl,rfl,hs.to _ _,oM,(by rw[ht];exact tl_dec oM oM)⟩,ka.to _ kR⟩
 omega
theorem wCompare (A:Option Addr)(c:Nat)(D:Option Addr)(d:Nat)(x y n m_:Nat)(hn:(wds x).length=n)(hm_:(wds y).length=m_)(hlx:(wds x).length≤1000000000)(hly:(wds y).length≤1000000000)(w:World)(h:Hp)(g:G w h)(hA:SlO 1 u64c 0 h A (wds x))(hD:SlO 1 u64c 0 h D (wds y)):CV 177 #[.slice A n c,.slice D m_ d] w h (iV (cmpN x y)):=by
 have hs:=(((sS g).aS hA).aS hD);refine go Tryz.func177 [(0,qS A n c),(1,qS D m_ d)] rfl (cSLlL hs [.v 4 (iV 0)] (lNcQ (cSLlL hs [.m 6 0,.v 7 (nV n),.m 8 1,.v 9 (nV m_)] ?_)));cases hb1:((n:Int) != (m_:Int))
 ·
  have phb1:=eqOfBne hb1;refine lB 10 hb1 (lNIF (cK (cQ (cSLlL hs [.m 16 0,.v 17 (nV n)] (lV 18 (iV ((n:Int)-1)) ?_ (hr:=rS (((n:Nat)-1)) kR ((wr64 oM oM).trans oM)))))));refine lL hs [.m 5 18] (lNkZ ?_);refine cTo _ (CG.loop (fun μ_ Γ w_=>∃ (m:Nat) (h_:Hp),μ_=m∧Γ=[(0,qS A n c),(1,qS D m_ d),(5,iV ((m:Int)-1))]∧SS w h w_ h_ [] [] [fun h_=>SlO 1 u64c 0 h_ D (wds y),fun h_=>SlO 1 u64c 0 h_ A (wds x)]∧m≤n∧(wds x).length=(wds y).length∧(wds x).drop m=(wds y).drop m) _ ⟨n,h,rfl,rfl,hs.to _ _,nR _,oM,(by rw[List.drop_eq_nil_of_le oM,List.drop_eq_nil_of_le oM])⟩ ?_);rintro _ _ w2 ⟨m,h3,hm4,rfl,hs,hm,hlen,hdr⟩;refine cQ (cSLlL hs [.m 19 5] ?_);cases hb5:(decide ((0:Int)≤((m:Int)-1:Int)))
  ·
   have phb5:=oF hb5;refine lB 20 hb5 (lNIF (CG.exit ?_))
   show CG _ _ _ _ _ _ _ _
   exact cSLlL hs [.v 4 (iV 0)] (lNkXr hs [] (iV 0) (by rw[cmpN_eq (wds_eq (by rw[show m=0 by omega] at hdr;simpa using hdr))]))
  have phb5:=oT hb5;refine lB 20 hb5 (lNIT (cK (cQ (kZ (cQ (cR 9 [] mixed hs al_nil ?_))))));refine eV 0 23 (qS A n c) (eV 1 24 (iV ((m:Int)-1)) (eX 2 25 A n c 1 ((m:Int)-1) (m-1) ((hs.f.2.1).ok oM) (eH 3 26 (mV ((wds x).getD (m-1) 0)) hs ((hs.f.2.1).el (m-1) oM) (eV 4 27 (qS D m_ d) (eV 5 28 (iV ((m:Int)-1)) (eX 6 29 D m_ d 1 ((m:Int)-1) (m-1) ((hs.f.1).ok oM) (eH 7 30 (mV ((wds y).getD (m-1) 0)) hs ((hs.f.1).el (m-1) oM) ?_)))))));cases hb6:((((wds x).getD (m-1) 0:Nat):Int) != (((wds y).getD (m-1) 0:Nat):Int))
  ·
   have phb6:=eqOfBne hb6;refine eB 8 31 hb6 (eD0 hs (fun w7 h8 hs=>tN (cIF (cK (kQ (lL hs [.m 21 5] (lV 22 (iV (((m-1:Nat):Int)-1)) ?_ (hr:=rS ((((m:Int)-1)-1)) kR ((wr64 oM oM).trans oM)))))))));refine lL hs [.m 5 22] (lD ?_);intro a_ ka;refine ⟨_,_,?_,⟨m-1,h8,rfl,rfl,hs.to _ _,oM,hlen,(drop_eq_step (k:=m-1) hlen oM (by rw[show m-1+1=m by omega];exact hdr) oM)⟩,ka.to _ kR⟩
   omega
  have phb6:=neOfBne hb6;refine eB 8 31 hb6 (eD0 hs (fun _ _ hs=>tN (cIT (cQ (cQ (cR 9 [] mixed hs al_nil ?_))))));refine eV 0 32 (qS A n c) (eV 1 33 (iV ((m:Int)-1)) (eX 2 34 A n c 1 ((m:Int)-1) (m-1) ((hs.f.2.1).ok oM) (eH 3 35 (mV ((wds x).getD (m-1) 0)) hs ((hs.f.2.1).el (m-1) oM) (eV 4 36 (qS D m_ d) (eV 5 37 (iV ((m:Int)-1)) (eX 6 38 D m_ d 1 ((m:Int)-1) (m-1) ((hs.f.1).ok oM) (eH 7 39 (mV ((wds y).getD (m-1) 0)) hs ((hs.f.1).el (m-1) oM) ?_)))))));cases za:(decide ((((wds x).getD (m-1) 0:Nat):Int)<(((wds y).getD (m-1) 0:Nat):Int)))
  ·
   have zc:=oF za;exact eB 8 40 za (eD0 hs (fun _ _ hs=>tN (cIF (cK (cSLlL hs [.v 4 (iV 1)] (lNkXr hs [] (iV 1) (by rw[←wds_cmp (k:=m-1) hlen oM (by rw[show m-1+1=m by omega];exact hdr) oM,cmpN_gt oM])))))))
  have zc:=oT za;exact eB 8 40 za (eD0 hs (fun _ _ hs=>tN (cIT (cSLlL hs [.v 4 (iV (-1))] (lNkXr hs [] (iV (-1)) (by rw[←wds_cmp (k:=m-1) hlen oM (by rw[show m-1+1=m by omega];exact hdr) oM,cmpN_lt oM]))))))
 have phb1:=neOfBne hb1;refine lB 10 hb1 (lNIT (cQ (cSLlL hs [.m 11 0,.v 12 (nV n),.m 13 1,.v 14 (nV m_)] ?_)));cases zb:(decide ((n:Int)<(m_:Int)))
 ·
  have zd:=oF zb;exact lB 15 zb (lNIF (cK (cSLlL hs [.v 4 (iV 1)] (lNkXr hs [] (iV 1) (by rw[cmpN_gt (wds_cmp_len oM)])))))
 have zd:=oT zb;exact lB 15 zb (lNIT (cSLlL hs [.v 4 (iV (-1))] (lNkXr hs [] (iV (-1)) (by rw[cmpN_lt (wds_cmp_len oM)]))))
theorem wWords (n:Nat)(hn:0<n)(hl:(wds n).length≤1000000000)(w:World)(h:Hp)(g:G w h):CR 174 #[nv n] w h (fun v h1=>NewW h h1 v (wds n)):=by
 have hs:=sS g;have hnb:=nb_len64 n;have hwl:=wds_len_nb n;have hbl:=byt_len n ((nb n+7)/8);have hnb0:=(nb_spec hn).2.2;refine go Tryz.func174 [(0,nv n)] rfl (cSL (lA 1 36 (nc n) hs (fun b1 w2 h3 hs=>lL hs [.v 2 (sZ)] (lNS (lL hs [.o 6 (nv n) 0 0 2] (lC 7 hs (nBytes n hl _ _ hs.g) ?_))))));rintro _ w4 h5 hs ⟨Ab,rfl,hb⟩;replace hs:=hs.aS hb;refine lL hs [.m 3 7] (lNS (lL hs [.m 8 3,.v 9 (nV ((nb n+7)/8))] (lIn 10 ((((nb n+7)/8):Nat)+7) ((((nb n+7)/8):Nat)+7) ?_)));refine lV 11 (nV (((((nb n+7)/8):Nat)+7:Nat)/8)) ?_ (hr:=rint (opQuo (t:=3) (u:=3) (x:=.tmp 10) (y:=.const (iV 8)) (k:=.i64) (a:=(((((nb n+7)/8):Nat)+7:Nat):Int)) (b:=(8:Int)) kR kR kR oM _) (quoI64 ((((nb n+7)/8):Nat)+7:Nat) 8 oM));refine lK 12 34 (((((nb n+7)/8):Nat)+7:Nat)/8:Nat) 1 8 (uV 0) u64c 0 hs (fun b6 w7 h8 hs=>?_);have hl9:(List.replicate (((((nb n+7)/8):Nat)+7:Nat)/8:Nat) 0).length=(((((nb n+7)/8):Nat)+7:Nat)/8:Nat):=by simp
 refine lL hs [.m 4 12] (lNcQ (cSLlL hs [.m 13 3,.v 14 (nV ((nb n+7)/8)),.v 15 (iV 0)] (lNkZ ?_)));refine cTo _ (CG.loop (fun μ_ Γ w_=>∃ (i:Nat) (l:List Nat) (h_:Hp),μ_=((nb n+7)/8)-i∧Γ=[(2,sZ),(3,qS Ab ((nb n+7)/8) ((nb n+7)/8)),(4,qS (sB b6) (((((nb n+7)/8):Nat)+7:Nat)/8:Nat) (((((nb n+7)/8):Nat)+7:Nat)/8:Nat)),(14,nV ((nb n+7)/8)),(15,nV i)]∧SS w h w_ h_ [⟨b6,34,(l).flatMap u64c⟩,⟨b1,36,nc n⟩] [] [fun h_=>SlO 1 u8c 0 h_ Ab (byt n ((nb n+7)/8))]∧i≤((nb n+7)/8)∧l.length=(((nb n+7)/8)+7)/8∧Wd l∧wval l=n%256^i) _ ⟨0,List.replicate (((((nb n+7)/8):Nat)+7:Nat)/8:Nat) 0,h8,rfl,rfl,hs.to _ _,Nat.zero_le _,hl9,Wd.rep _,(by show bval _ _=_;rw[bval_rep,Nat.pow_zero,Nat.mod_one])⟩ ?_);rintro _ _ _ ⟨i,l,_,hm12,rfl,hs,hi,hll,hW,inv⟩;have hbi:=byt_getD_lt n ((nb n+7)/8) (((nb n+7)/8)-1-i);refine cSL ?_;cases za:(decide ((i:Int)<((((nb n+7)/8):Nat):Int)))
 ·
  have zb:=oF za;refine lB 16 za (lNcQ (cIF (CG.exit ?_)))
  show CG _ _ _ _ _ _ _ _
  refine cSLlL hs [.m 39 4,.m 2 39] (lN (kX ?_));have him:i=((nb n+7)/8):=by omega
  have hE:wval l=n:=by rw[inv,him];exact Nat.mod_eq_of_lt (lt256 n)
  have hlw:l=wds n:=by rw[←hE];exact (wds_full hW (by rw[hll,hE];omega)).symm
  rw[hlw] at hs
  obtain ⟨_,hs,sg15,lo16,bc17⟩:=hs.pub 0;replace hs:=(hs.to [⟨b1,36,nc n⟩] []).aS (SlO.of_flat (sz:=1) (f:=u64c) (d:=0) (b:=b6) (o:=0) (l:=wds n) (fun _=>rfl) sg15);exact hs.ret [] (qS (sB b6) (((((nb n+7)/8):Nat)+7:Nat)/8:Nat) (((((nb n+7)/8):Nat)+7:Nat)/8:Nat)) (⟨b6,(by rw[show (((nb n+7)/8)+7)/8=(wds n).length by omega]),lo16,bc17,hs.f.1⟩)
 have zb:=oT za;refine lB 16 za (lNcQ (cIT (cK (cQ (kZ (cSLlL hs [.m 17 15,.m 5 17] (lN (cR 19 [] mixed hs al_nil ?_))))))));refine eV 0 18 (qS (sB b6) (((((nb n+7)/8):Nat)+7:Nat)/8:Nat) (((((nb n+7)/8):Nat)+7:Nat)/8:Nat)) (eV 1 19 (nV i) (eV 2 20 (nV (i/8)) ?_ (hv:=fun _=>rint (opQuo (t:=3) (u:=3) (x:=.tmp 19) (y:=.const (iV 8)) (k:=.i64) (a:=(i:Int)) (b:=(8:Int)) kR kR kR oM _) (quoI64 i 8 oM))));refine eX 3 21 (sB b6) (((((nb n+7)/8):Nat)+7:Nat)/8:Nat) (((((nb n+7)/8):Nat)+7:Nat)/8:Nat) 1 (i/8:Nat) (i/8) rfl (eQ 4 22 0 l u64c 1 0 (i/8) (mV ((l).getD (i/8) 0)) hs oM (eV 5 23 (qS Ab ((nb n+7)/8) ((nb n+7)/8)) (eV 6 24 (qS Ab ((nb n+7)/8) ((nb n+7)/8)) (eV 7 25 (nV ((nb n+7)/8)) (eIn 8 26 ((((nb n+7)/8):Nat)-1) ((((nb n+7)/8):Nat)-1) (eV 9 27 (nV i) (eIn 10 28 (((((nb n+7)/8):Nat)-1:Nat)-(i:Nat)) (((((nb n+7)/8):Nat)-1:Nat)-i) (eX 11 29 Ab ((nb n+7)/8) ((nb n+7)/8) 1 (((((nb n+7)/8):Nat)-1:Nat)-i:Nat) (((((nb n+7)/8):Nat)-1:Nat)-i:Nat) ((hs.f.1).ok oM) (eH 12 30 (.int .u8 ((byt n ((nb n+7)/8)).getD (((((nb n+7)/8):Nat)-1:Nat)-i:Nat) 0:Nat)) hs ((hs.f.1).el (((((nb n+7)/8):Nat)-1:Nat)-i:Nat) oM) (eV 13 31 (mV ((byt n ((nb n+7)/8)).getD (((((nb n+7)/8):Nat)-1:Nat)-i:Nat) 0)) ?_ (hv:=fun _=>rU ((((byt n ((nb n+7)/8)).getD (((((nb n+7)/8):Nat)-1:Nat)-i:Nat) 0:Nat):Int)) kR (fitU64 oM oM))))))))))));refine eV 14 32 (nV i) (eV 15 33 (nV (i%8)) ?_ (hv:=fun _=>rint (opRem (t:=3) (u:=3) (x:=.tmp 32) (y:=.const (iV 8)) (k:=.i64) (a:=(i:Int)) (b:=(8:Int)) kR kR kR oM _) (tmodNat i 8)));refine eIn 16 34 (8*(i%8:Nat)) (8*(i%8)) (eV 17 35 (mV (((byt n ((nb n+7)/8)).getD (((((nb n+7)/8):Nat)-1:Nat)-i:Nat) 0:Nat)*2^(8*(i%8))%18446744073709551616)) ?_ (hv:=fun _=>opShlN (t:=34) (u:=3) (x:=.tmp 31) (y:=.tmp 34) (ky:=.i64) (a:=((byt n ((nb n+7)/8)).getD (((((nb n+7)/8):Nat)-1:Nat)-i:Nat) 0:Nat)) (n:=(8*(i%8))) kR kR kR _));obtain ⟨hS1,hS2,hS3⟩:=fb_step oM inv (show (byt n ((nb n+7)/8)).getD (((nb n+7)/8)-1-i) 0=n/256^i%256 by rw[byt_get n ((nb n+7)/8) _ oM,show ((nb n+7)/8)-1-(((nb n+7)/8)-1-i)=i by omega]);have hlg:=hW.get (i/8);refine eV 18 36 (mV (l.getD (i/8) 0+(byt n ((nb n+7)/8)).getD (((nb n+7)/8)-1-i) 0*2^(8*(i%8)))) ?_ (hv:=fun _=>rint (opOr (t:=34) (u:=34) (x:=.tmp 22) (y:=.tmp 35) (a:=((l).getD (i/8) 0)) (b:=(((byt n ((nb n+7)/8)).getD (((((nb n+7)/8):Nat)-1:Nat)-i:Nat) 0:Nat)*2^(8*(i%8))%18446744073709551616:Nat)) kR kR kR oM oM _) (by rw[hS1]));refine eD0 hs (fun _ zd hs=>tX 19 37 (sB b6) (((((nb n+7)/8):Nat)+7:Nat)/8:Nat) (((((nb n+7)/8):Nat)+7:Nat)/8:Nat) 1 (i/8:Nat) (i/8) rfl (tW 20 0 l u64c 1 (i/8) (l.getD (i/8) 0+(byt n ((nb n+7)/8)).getD (((nb n+7)/8)-1-i) 0*2^(8*(i%8)):Nat) hs oM (fun _ hs=>?_)));have zc:((l).set (i/8) (l.getD (i/8) 0+(byt n ((nb n+7)/8)).getD (((nb n+7)/8)-1-i) 0*2^(8*(i%8)):Nat)).length=(((((nb n+7)/8):Nat)+7:Nat)/8:Nat):=by rw[List.length_set];exact hll
 replace hs:=hs.to [⟨b6,34,((l).set (i/8) (l.getD (i/8) 0+(byt n ((nb n+7)/8)).getD (((nb n+7)/8)-1-i) 0*2^(8*(i%8)):Nat)).flatMap u64c⟩,⟨b1,36,nc n⟩] [];refine tN (kQ (lIn 38 ((i:Nat)+1) (i+1) ?_));refine lL hs [.m 15 38] (lD ?_);intro a_ ka;refine ⟨_,_,?_,⟨i+1,(l).set (i/8) (l.getD (i/8) 0+(byt n ((nb n+7)/8)).getD (((nb n+7)/8)-1-i) 0*2^(8*(i%8)):Nat),zd,rfl,rfl,hs.to _ _,oM,zc,(hW.set _ hS2),hS3⟩,ka.to _ kR⟩
 omega
theorem wNumber (A:Option Addr)(c:Nat)(l:List Nat)(n:Nat)(hn:l.length=n)(hW:Wd l)(hl:l.length≤1000000000)(w:World)(h:Hp)(g:G w h)(hA:SlO 1 u64c 0 h A l):CV 179 #[.slice A n c] w h (nv (wval l)):=by
 have hs:=((sS g).aS hA);refine go Tryz.func179 [(0,qS A n c)] rfl (cSL (lA 2 36 ([uV 0,eS]) hs (fun b1 w2 h3 hs=>lNS (lL hs [.m 5 0,.v 6 (nV n)] (lIn 7 (8*(n:Nat)) (8*n) ?_)))));refine lK 8 5 (8*n) 1 1 (.int .u8 0) u8c 0 hs (fun b4 w5 h6 hs=>?_);have hl7:(List.replicate (8*n) 0).length=(8*n):=by simp
 refine lL hs [.m 3 8] (lNcQ (cSLlL hs [.m 9 3,.v 10 (nV (8*n)),.v 11 (iV 0)] (lNkZ ?_)));refine cTo _ (CG.loop (fun μ_ Γ w_=>∃ (i:Nat) (z:List Nat) (h_:Hp),μ_=8*n-i∧Γ=[(0,qS A n c),(2,pB b1),(3,qS (sB b4) (8*n) (8*n)),(10,nV (8*n)),(11,nV i)]∧SS w h w_ h_ [⟨b4,5,(z).flatMap u8c⟩,⟨b1,36,[uV 0,eS]⟩] [] [fun h_=>SlO 1 u64c 0 h_ A l]∧i≤8*n∧z.length=8*n∧(∀ j,j<i→z.getD (8*n-1-j) 0=wval l/256^j%256)) _ ⟨0,List.replicate (8*n) 0,h6,rfl,rfl,hs.to _ _,Nat.zero_le _,hl7,(fun j hj=>absurd hj oM)⟩ ?_);rintro _ _ w8 ⟨i,z,h9,hm10,rfl,hs,hi,hzl,hg⟩;have hwi:=hW.get (i/8);refine cSL ?_;cases za:(decide ((i:Int)<(((8*n):Nat):Int)))
 ·
  have zb:=oF za;refine lB 12 za (lNcQ (cIF (CG.exit ?_)))
  show CG _ _ _ _ _ _ _ _
  refine cSLlL hs [.m 32 3] ?_;have him:i=8*n:=by omega
  have hlb:z=byt (wval l) (8*n):=eq_byt hzl (fun j hj=>hg j oM);rw[hlb] at hs
  obtain ⟨_,hs,sg13,lo14,bc15⟩:=hs.pub 0;replace hs:=(hs.to [⟨b1,36,[uV 0,eS]⟩] []).aS (SlO.of_flat (sz:=1) (f:=u8c) (d:=0) (b:=b4) (o:=0) (l:=byt (wval l) (8*n)) (fun _=>rfl) sg13);exact lCval 33 hs (nFromB (wval l) (8*n) (sB b4) (8*n) oM oM (by have:=w256 hW;rwa [hn] at this) _ _ hs.g hs.f.1) (fun _ _ hs=>lP 0 0 (nc (wval l)) hs (fun _ hs=>lNkXr hs [(0,0,2)] (nv (wval l)) rfl))
 have zb:=oT za;refine lB 12 za (lNcQ (cIT (cK (cQ (kZ (cSLlL hs [.m 13 11,.m 4 13] (lN (kQ (lL hs [.m 14 3,.m 15 3,.v 16 (nV (8*n))] (lIn 17 (((8*n):Nat)-1) ((8*n)-1) ?_))))))))));refine lL hs [.m 18 4] (lIn 19 (((8*n)-1:Nat)-(i:Nat)) (((8*n)-1)-i) ?_);refine lL hs [.m 20 0,.m 21 4] (lV 22 (nV (i/8)) ?_ (hr:=rint (opQuo (t:=3) (u:=3) (x:=.tmp 21) (y:=.const (iV 8)) (k:=.i64) (a:=(i:Int)) (b:=(8:Int)) kR kR kR oM _) (quoI64 i 8 oM)));refine lX 23 A n c 1 (i/8:Nat) (i/8) ((hs.f.1).ok oM) (lH 24 (mV (l.getD (i/8) 0)) hs ((hs.f.1).el (i/8) oM) (lL hs [.m 25 4] (lV 26 (nV (i%8)) ?_ (hr:=rint (opRem (t:=3) (u:=3) (x:=.tmp 25) (y:=.const (iV 8)) (k:=.i64) (a:=(i:Int)) (b:=(8:Int)) kR kR kR oM _) (tmodNat i 8)))));refine lIn 27 (8*(i%8:Nat)) (8*(i%8)) (lV 28 (mV ((l.getD (i/8) 0)/2^(8*(i%8)))) ?_ (hr:=opShrN (t:=34) (u:=3) (x:=.tmp 24) (y:=.tmp 27) (ky:=.i64) (a:=(l.getD (i/8) 0)) (n:=(8*(i%8))) kR kR kR oM _));refine lV 29 (.int .u8 (l.getD (i/8) 0/2^(8*(i%8))%256:Nat)) ?_ (hr:=rint (n:=IntKind.wrap .u8 ((l.getD (i/8) 0/2^(8*(i%8)):Nat):Int)) kR (wrU8 _));refine lX 30 (sB b4) (8*n) (8*n) 1 (((8*n)-1)-i:Nat) (((8*n)-1)-i:Nat) rfl (lW 0 z u8c 1 (((8*n)-1)-i:Nat) (l.getD (i/8) 0/2^(8*(i%8))%256:Nat) hs oM (fun _ hs=>?_));have zc:((z).set (((8*n)-1)-i:Nat) (l.getD (i/8) 0/2^(8*(i%8))%256:Nat)).length=(8*n):=by rw[List.length_set];exact hzl
 replace hs:=hs.to [⟨b4,5,((z).set (((8*n)-1)-i:Nat) (l.getD (i/8) 0/2^(8*(i%8))%256:Nat)).flatMap u8c⟩,⟨b1,36,[uV 0,eS]⟩] [];refine lN (kQ (lIn 31 ((i:Nat)+1) (i+1) ?_));refine lL hs [.m 11 31] (lD ?_);intro a_ ka;refine ⟨_,_,?_,⟨i+1,(z).set (((8*n)-1)-i:Nat) (l.getD (i/8) 0/2^(8*(i%8))%256:Nat),h9,rfl,rfl,hs.to _ _,oM,zc,(set_from_top hzl oM hg (byte_row hW i))⟩,ka.to _ kR⟩
 omega
def win (l:List Nat)(o n:Nat):List Nat:=(l.drop o).take n
theorem win_len {l:List Nat}{o n:Nat}(h:o+n≤l.length):(win l o n).length=n:=by unfold win;rw[List.length_take,List.length_drop];omega
theorem win_get {l:List Nat}{o n j:Nat}(h:j<n):(win l o n).getD j 0=l.getD (o+j) 0:=by unfold win;rw[getD_take' h,getD_drop']
theorem win_set {l:List Nat}{o n i x:Nat}(hi:i<n):win (l.set (o+i) x) o n=(win l o n).set i x:=by
  unfold win
  rw[List.drop_set,if_neg oM,List.take_set,show o+i-o=i by omega]
theorem win_drop {l:List Nat}{o n q:Nat}:(win l o n).drop q=win l (o+q) (n-q):=by
  unfold win;rw[List.drop_take,List.drop_drop]
theorem win_take {l:List Nat}{o n m:Nat}(h:m≤n):(win l o n).take m=win l o m:=by
  unfold win;rw[List.take_take,Nat.min_eq_left h]
theorem win_all (l:List Nat)(n:Nat)(h:l.length≤n):win l 0 n=l:=by unfold win;rw[List.drop_zero,List.take_of_length_le h]
theorem Wd.win {l:List Nat}(h:Wd l)(o n:Nat):Wd (win l o n):=Dg.take (Dg.drop h o) n
theorem dn_step {Z W:List Nat}{i p d r0:Nat}(hi:i<Z.length)(inv:2^p*bval 18446744073709551616 (Z.take i)+r0=bval 18446744073709551616 (W.take i)+18446744073709551616^i*(W.getD i 0%2^p))
    (hd:2^p*d+W.getD i 0%2^p=W.getD i 0+18446744073709551616*(W.getD (i+1) 0%2^p)) :
    2^p*bval 18446744073709551616 ((Z.set i d).take (i+1))+r0=bval 18446744073709551616 (W.take (i+1))+18446744073709551616^(i+1)*(W.getD (i+1) 0%2^p):=by
  have e1:=bval_take_next 18446744073709551616 (Z.set i d) i;have e2:(Z.set i d).take i=Z.take i:=by rw[List.take_set,List.set_eq_of_length_le];rw[List.length_take];omega
  rw[e2,getD_set' hi,if_pos rfl] at e1
  have e3:=bval_take_next 18446744073709551616 W i;have e4:=congrArg (18446744073709551616^i * ·) hd
  simp only[Nat.mul_add] at e4
  rw[e1,e3,Nat.pow_succ,Nat.mul_add];have e5:2^p*(18446744073709551616^i*d)=18446744073709551616^i*(2^p*d):=by ac_rfl
  have e6:18446744073709551616^i*18446744073709551616*(W.getD (i+1) 0%2^p)=18446744073709551616^i*(18446744073709551616*(W.getD (i+1) 0%2^p)):=by ac_rfl
  rw[e5,e6]
  omega
theorem dn_start {X:List Nat}(hX:Wd X){k m:Nat}(t:Tz (wval X) k m)(hk:k/64<X.length):wval (X.drop (k/64))=2^(k%64)*m∧(X.drop (k/64)).getD 0 0%2^(k%64)=0:=by
  have h1:wval (X.drop (k/64))=2^(k%64)*m:=by
    rw[wval_drop hX oM,t.1,pow_n k,Nat.mul_assoc,Nat.mul_div_cancel_left _ (Nat.pow_pos kD)]
  refine ⟨h1,?_⟩
  have h2:wval (X.drop (k/64))=(X.drop (k/64)).getD 0 0+18446744073709551616*bval 18446744073709551616 ((X.drop (k/64)).drop 1):=by
    have:=bval_drop 18446744073709551616 (l:=X.drop (k/64)) (k:=0) (by rw[List.length_drop];omega)
    rwa [List.drop_zero] at this
  have e64:(18446744073709551616:Nat)=2^(k%64)*2^(64-k%64):=by rw[←Nat.pow_add,show k%64+(64-k%64)=64 by omega]
  rw[h1] at h2
  have h3:(2^(k%64)*m)%2^(k%64)=0:=Nat.mul_mod_right _ _;rw[h2] at h3
  conv at h3=>lhs;rw[e64]
  rw[Nat.mul_assoc,Nat.add_mul_mod_self_left] at h3
  exact h3
theorem dn_end {Z W:List Nat}{p m:Nat}(hl:W.length≤Z.length)(inv:2^p*bval 18446744073709551616 (Z.take Z.length)+0=bval 18446744073709551616 (W.take Z.length)+18446744073709551616^Z.length*(W.getD Z.length 0%2^p))(e:wval W=2^p*m):wval Z=m:=by
  rw[List.take_length,List.take_of_length_le hl,getD_out hl,Nat.zero_mod,Nat.mul_zero,Nat.add_zero,Nat.add_zero] at inv
  have e2:bval 18446744073709551616 W=2^p*m:=e;rw[e2] at inv
  exact Nat.eq_of_mul_eq_mul_left (Nat.two_pow_pos p) inv
theorem keep_set {l X:List Nat}{q i x N:Nat}(hl:q+i<l.length)(h:∀ j,i≤j→j<N→l.getD (q+j) 0=X.getD j 0):∀ j,i+1≤j→j<N→(l.set (q+i) x).getD (q+j) 0=X.getD j 0:=fun j h1 h2=>by
  rw[getD_set' hl,if_neg oM];exact h j oM h2
theorem wDown (rb:Nat)(l0:List Nat)(o n c x:Nat)(hx:0<x)(hl0:l0.length≤1000000000)(hon:o+n≤l0.length)(hnc:n≤c)(hW0:Wd l0)(hwin:win l0 o n=wds x)(w:World)(h:Hp)(g:G w h)(ho:Own w rb 34 (l0.flatMap u64c))(hj:h[rb]?=some junk)(tb:Tab h):Calls Tryz.prog 176 #[.slice (some ⟨rb,o,none⟩) n c] w (RetM rb w h fun v w' _=>∃ z:List Nat,∃ o' n' c':Nat,v=.slice (some ⟨rb,o',none⟩) n' c'∧z.length=l0.length∧Wd z∧o'+n'≤z.length∧n'≤c'∧(∃ k m:Nat,Tz x k m∧win z o' n'=wds m)∧Own w' rb 34 (z.flatMap u64c)):=by
 have hmo:UpM [rb] w h w h:=UpM.refl g;obtain ⟨wz,hz,hs⟩:=SS.at_ g ho hj;have hl0_:l0.length=l0.length:=rfl;replace hs:=(hs.aB tb);refine go Tryz.func176 [(0,qS (some ⟨rb,o,none⟩) n c)] rfl (cSLlL hs [.v 2 (sZ)] (lNS (lL hs [.m 6 0] (lClu 7 0 hs (fun _ g_ f_ sg_=>wZeros (some ⟨rb,o,none⟩) c (win l0 o n) n (win_len hon) (hW0.win _ _) (by rw[hwin,wval_wds];exact hx) (by rw[win_len hon];omega) _ _ g_ (f_.1) (SlO.win (f:=u64c) (d:=0) (b:=rb) (l:=l0) (fun _=>rfl) sg_ o n)) ?_))));rintro _ w1 h2 u3 hs ⟨k,m,rfl,htz,hkn⟩;replace hmo:=hmo.trans (u3.m _);rw[win_len hon] at hkn
 have hX:=hW0.win o n;obtain ⟨hE0,hr0⟩:=dn_start hX htz (by rw[win_len hon];omega);rw[win_drop] at hE0 hr0
 obtain ⟨X,hXd⟩:∃ X,X=win l0 (o+k/64) (n-k/64):=⟨_,rfl⟩;rw[←hXd] at hE0 hr0
 have hXl:X.length=n-k/64:=by rw[hXd];exact win_len oM
 have hXW:Wd X:=by rw[hXd];exact hW0.win _ _
 have hXg:∀ j,j<n-k/64→X.getD j 0=l0.getD (o+k/64+j) 0:=fun j hj=>by rw[hXd];exact win_get hj
 refine lL hs [.m 3 7] (lNS (lL hs [.m 8 0,.m 9 3] (lV 10 (nV (k/64)) ?_ (hr:=rint (opQuo (t:=3) (u:=3) (x:=.tmp 9) (y:=.const (iV 64)) (k:=.i64) (a:=(k:Int)) (b:=(64:Int)) kR kR kR oM _) (quoI64 k 64 oM)))));refine lFo 11 rb o n c 1 (k/64:Nat) (k/64) (o+(k/64)) (lL hs [.m 0 11] (lNS (lL hs [.m 12 3] (lV 13 (nV (k%64)) ?_ (hr:=rint (opRem (t:=3) (u:=3) (x:=.tmp 12) (y:=.const (iV 64)) (k:=.i64) (a:=(k:Int)) (b:=(64:Int)) kR kR kR oM _) (tmodNat k 64))))));refine lL hs [.m 4 13] (lNcQ (cSLlL hs [.m 14 0,.v 15 (nV (n-(k/64))),.v 16 (iV 0)] (lNkZ ?_)));refine cTo _ (CG.loop (fun μ_ Γ w_=>∃ (i:Nat) (l:List Nat) (h_:Hp),μ_=(n-k/64)-i∧Γ=[(0,qS (some ⟨rb,(o+(k/64)),none⟩) (n-(k/64)) (c-(k/64))),(2,sZ),(4,nV (k%64)),(15,nV (n-(k/64))),(16,nV i)]∧SS wz hz w_ h_ [⟨rb,34,(l).flatMap u64c⟩] [] [fun h_=>Tab h_]∧i≤n-k/64∧l.length=l0.length∧Wd l∧2^(k%64)*bval 18446744073709551616 ((win l (o+k/64) (n-k/64)).take i)+0=bval 18446744073709551616 (X.take i)+18446744073709551616^i*(X.getD i 0%2^(k%64))∧(∀ j,i≤j→j<n-k/64→l.getD (o+k/64+j) 0=X.getD j 0)∧UpM [rb] w h w_ h_) _ ⟨0,l0,h2,rfl,rfl,hs.to _ _,Nat.zero_le _,rfl,hW0,(by rw[hr0];simp[bval]),(fun j _ hj=>(hXg j hj).symm),hmo⟩ ?_);rintro _ _ w4 ⟨i,l,h5,hm6,rfl,hs,hi,hll,hW,inv,hun,hmo⟩;refine cSL ?_;cases hb7:(decide ((i:Int)<((n-(k/64):Nat):Int)))
 ·
  have phb7:=oF hb7;refine lB 17 hb7 (lNcQ (cIF (CG.exit ?_)))
  show CG _ _ _ _ _ _ _ _
  refine cSLlL hs [.m 46 0] (lClu 47 0 hs (fun _ g_ f_ sg_=>wTrim (some ⟨rb,(o+k/64),none⟩) (c-(k/64)) (win l (o+k/64) (n-k/64)) (n-k/64) (win_len oM) (by rw[win_len oM];omega) (by rw[win_len oM];omega) _ _ g_ (SlO.win (f:=u64c) (d:=0) (b:=rb) (l:=l) (fun _=>rfl) sg_ (o+k/64) (n-k/64))) ?_);rintro _ w8 h9 u10 hs rfl;replace hmo:=hmo.trans (u10.m _);refine lL hs [.m 2 47] (lN (kX ?_));have hiN:i=n-k/64:=by omega
  have hZl:(win l (o+k/64) (n-k/64)).length=n-k/64:=win_len oM;have hE:=dn_end (Z:=win l (o+k/64) (n-k/64)) oM (by rw[hZl,←hiN];rw[←hiN] at inv;exact inv) hE0;have hZW:Wd (win l (o+k/64) (n-k/64)):=hW.win _ _;have hwm:=wds_of hZW;rw[hE,hZl] at hwm
  have htl:=tl_le (win l (o+k/64) (n-k/64)) (n-k/64);exact hs.retM hmo [] (qS (some ⟨rb,(o+k/64),none⟩) (tl (win l (o+k/64) (n-k/64)) (n-k/64)) (c-(k/64))) ⟨l,(o+k/64),_,_,rfl,hll,hW,by omega,by omega,⟨k,m,by rw[hwin,wval_wds] at htz;exact htz,by rw[hwm];exact (win_take htl).symm⟩,hs.own 0⟩
 have phb7:=oT hb7;refine lB 17 hb7 (lNcQ (cIT (cK (cQ (kZ (cSLlL hs [.m 18 16,.m 5 18] (lNS (lL hs [.m 19 0,.m 20 5] (lXo 21 rb (o+(k/64)) (n-(k/64)) (c-(k/64)) 1 (i:Nat) i ((o+(k/64))+i) ?_)))))))));refine lQ 22 0 l u64c 1 0 ((o+(k/64))+i) (mV ((l).getD ((o+(k/64))+i) 0)) hs oM (lL hs [.m 23 4] ?_);have hXi:X.getD i 0=l.getD (o+k/64+i) 0:=(hun i (nR _) oM).symm;have hxi:=hW.get (o+k/64+i);have hdv:=Nat.div_le_self (l.getD (o+k/64+i) 0) (2^(k%64));refine lV 24 (mV (((l).getD ((o+(k/64))+i) 0:Nat)/2^(k%64))) ?_ (hr:=opShrN (t:=34) (u:=3) (x:=.tmp 22) (y:=.tmp 23) (ky:=.i64) (a:=((l).getD ((o+(k/64))+i) 0:Nat)) (n:=(k%64)) kR kR kR oM _);refine lXo 25 rb (o+(k/64)) (n-(k/64)) (c-(k/64)) 1 (i:Nat) i ((o+(k/64))+i) (lWu 0 l u64c 1 ((o+(k/64))+i) (((l).getD ((o+(k/64))+i) 0:Nat)/2^(k%64):Nat) hs oM (fun _ pu hs=>?_));replace hmo:=hmo.put pu (List.mem_singleton.2 rfl) hs.g;have zb:((l).set ((o+(k/64))+i) (((l).getD ((o+(k/64))+i) 0:Nat)/2^(k%64):Nat)).length=l0.length:=by rw[List.length_set];exact hll
 replace hs:=hs.to [⟨rb,34,((l).set ((o+(k/64))+i) (((l).getD ((o+(k/64))+i) 0:Nat)/2^(k%64):Nat)).flatMap u64c⟩] [];refine lNS (lL hs [.m 26 5] (lIn 27 ((i:Nat)+1) (i+1) ?_));refine lL hs [.m 28 0,.v 29 (nV (n-(k/64)))] ?_;cases za:(decide (((i+1:Nat):Int)<((n-(k/64):Nat):Int)))
 ·
  have zc:=oF za;refine lB 30 za (lNIF (cK (kQ (lIn 45 ((i:Nat)+1) (i+1) ?_))));refine lL hs [.m 16 45] (lD ?_);intro a_ ka;refine ⟨_,_,?_,⟨i+1,(l).set ((o+(k/64))+i) (((l).getD ((o+(k/64))+i) 0:Nat)/2^(k%64):Nat),h5,rfl,rfl,hs.to _ _,oM,zb,(hW.set _ oM),(by rw[win_set oM];exact dn_step (by rw[win_len oM];omega) inv (by rw[hXi,getD_out (l:=X) (show X.length≤i+1 by omega),Nat.zero_mod,Nat.mul_zero,Nat.add_zero];exact Nat.div_add_mod _ _)),(keep_set oM hun),hmo⟩,ka.to _ kR⟩
  omega
 have zc:=oT za;refine lB 30 za (lNIT (cRa ⟨[],none⟩ 13 mixed ?_));replace hmo:=hmo.trans ((Up.drew (Up.refl hs.g)).m _);replace hs:=hs.drew;refine aV 0 31 (qS (some ⟨rb,(o+(k/64)),none⟩) (n-(k/64)) (c-(k/64))) (aV 1 32 (nV i) (aXo 2 33 rb (o+(k/64)) (n-(k/64)) (c-(k/64)) 1 (i:Nat) i ((o+(k/64))+i) (aQ 3 34 0 ((l).set ((o+(k/64))+i) (((l).getD ((o+(k/64))+i) 0:Nat)/2^(k%64):Nat)) u64c 1 0 ((o+(k/64))+i) (mV (((l).set ((o+(k/64))+i) (((l).getD ((o+(k/64))+i) 0:Nat)/2^(k%64):Nat)).getD ((o+(k/64))+i) 0)) hs oM (aV 4 35 (qS (some ⟨rb,(o+(k/64)),none⟩) (n-(k/64)) (c-(k/64))) (aV 5 36 (nV i) (aV 6 37 (nV (i+1)) ?_ (hv:=fun _=>rS (((i:Nat)+1)) kR ((wr64 oM oM).trans oM))))))));refine aXo 7 38 rb (o+(k/64)) (n-(k/64)) (c-(k/64)) 1 (i+1:Nat) (i+1) ((o+(k/64))+(i+1)) (aQ 8 39 0 ((l).set ((o+(k/64))+i) (((l).getD ((o+(k/64))+i) 0:Nat)/2^(k%64):Nat)) u64c 1 0 ((o+(k/64))+(i+1)) (mV (((l).set ((o+(k/64))+i) (((l).getD ((o+(k/64))+i) 0:Nat)/2^(k%64):Nat)).getD ((o+(k/64))+(i+1)) 0)) hs oM (aV 9 40 (nV (k%64)) (aV 10 41 (nV (64-(k%64))) ?_ (hv:=fun _=>rS ((64-(k%64:Nat))) kR ((wr64 oM oM).trans oM)))));refine aV 11 42 (mV ((((l).set ((o+(k/64))+i) (((l).getD ((o+(k/64))+i) 0:Nat)/2^(k%64):Nat)).getD ((o+(k/64))+(i+1)) 0:Nat)*2^(64-(k%64))%18446744073709551616)) ?_ (hv:=fun _=>opShlN (t:=34) (u:=3) (x:=.tmp 39) (y:=.tmp 41) (ky:=.i64) (a:=(((l).set ((o+(k/64))+i) (((l).getD ((o+(k/64))+i) 0:Nat)/2^(k%64):Nat)).getD ((o+(k/64))+(i+1)) 0:Nat)) (n:=(64-(k%64))) kR kR kR _);have hXn:X.getD (i+1) 0=l.getD (o+k/64+(i+1)) 0:=(hun (i+1) oM oM).symm;obtain ⟨hS1,hS2,hS3⟩:=shr_word (x:=l.getD (o+k/64+i) 0) (y:=l.getD (o+k/64+(i+1)) 0) (p:=k%64) oM hxi;have hgs:=getD_set' (l:=l) (k:=o+k/64+i) (j:=o+k/64+i) (x:=l.getD (o+k/64+i) 0/2^(k%64)) oM;rw[if_pos rfl] at hgs
 have hgn:=getD_set' (l:=l) (k:=o+k/64+i) (j:=o+k/64+(i+1)) (x:=l.getD (o+k/64+i) 0/2^(k%64)) oM;rw[if_neg oM] at hgn
 refine aV 12 43 (mV (l.getD (o+k/64+i) 0/2^(k%64)+l.getD (o+k/64+(i+1)) 0*2^(64-k%64)%18446744073709551616)) ?_ (hv:=fun _=>rint (opOr (t:=34) (u:=34) (x:=.tmp 34) (y:=.tmp 42) (a:=(((l).set ((o+(k/64))+i) (((l).getD ((o+(k/64))+i) 0:Nat)/2^(k%64):Nat)).getD ((o+(k/64))+i) 0:Nat)) (b:=((((l).set ((o+(k/64))+i) (((l).getD ((o+(k/64))+i) 0:Nat)/2^(k%64):Nat)).getD ((o+(k/64))+(i+1)) 0:Nat)*2^(64-(k%64))%18446744073709551616:Nat)) kR kR kR oM oM _) (by rw[hgs,hgn,hS1]));refine tXo 13 44 rb (o+(k/64)) (n-(k/64)) (c-(k/64)) 1 (i:Nat) i ((o+(k/64))+i) (tWu 14 0 ((l).set ((o+(k/64))+i) (((l).getD ((o+(k/64))+i) 0:Nat)/2^(k%64):Nat)) u64c 1 ((o+(k/64))+i) (l.getD (o+k/64+i) 0/2^(k%64)+l.getD (o+k/64+(i+1)) 0*2^(64-k%64)%18446744073709551616:Nat) hs oM (fun _ pu hs=>?_));replace hmo:=hmo.put pu (List.mem_singleton.2 rfl) hs.g;have zd:(((l).set ((o+(k/64))+i) (((l).getD ((o+(k/64))+i) 0:Nat)/2^(k%64):Nat)).set ((o+(k/64))+i) (l.getD (o+k/64+i) 0/2^(k%64)+l.getD (o+k/64+(i+1)) 0*2^(64-k%64)%18446744073709551616:Nat)).length=l0.length:=by rw[List.length_set];exact zb
 replace hs:=hs.to [⟨rb,34,(((l).set ((o+(k/64))+i) (((l).getD ((o+(k/64))+i) 0:Nat)/2^(k%64):Nat)).set ((o+(k/64))+i) (l.getD (o+k/64+i) 0/2^(k%64)+l.getD (o+k/64+(i+1)) 0*2^(64-k%64)%18446744073709551616:Nat)).flatMap u64c⟩] [];refine tN (kQ (lIn 45 ((i:Nat)+1) (i+1) ?_));refine lL hs [.m 16 45] (lD ?_);intro a_ ka;refine ⟨_,_,?_,⟨i+1,((l).set ((o+(k/64))+i) (((l).getD ((o+(k/64))+i) 0:Nat)/2^(k%64):Nat)).set ((o+(k/64))+i) (l.getD (o+k/64+i) 0/2^(k%64)+l.getD (o+k/64+(i+1)) 0*2^(64-k%64)%18446744073709551616:Nat),h5,rfl,rfl,hs.to _ _,oM,zd,((hW.set _ oM).set _ hS2),(by rw[List.set_set,win_set oM];exact dn_step (by rw[win_len oM];omega) inv (by rw[hXi,hXn];exact hS3)),(by rw[List.set_set];exact keep_set oM hun),hmo⟩,ka.to _ kR⟩
 omega
theorem wSubt (rb:Nat)(l0:List Nat)(o n c x:Nat)(hl0:l0.length≤1000000000)(hon:o+n≤l0.length)(hnc:n≤c)(hW0:Wd l0)(hwin:win l0 o n=wds x)(D:Option Addr)(d y m:Nat)(hm:(wds y).length=m)(hmd:m≤d)(hyx:y≤x)(w:World)(h:Hp)(g:G w h)(ho:Own w rb 34 (l0.flatMap u64c))(hj:h[rb]?=some junk)(hD:SlO 1 u64c 0 h D (wds y)):Calls Tryz.prog 178 #[.slice (some ⟨rb,o,none⟩) n c,.slice D m d] w (RetM rb w h fun v w' _=>∃ z:List Nat,∃ o' n' c':Nat,v=.slice (some ⟨rb,o',none⟩) n' c'∧z.length=l0.length∧Wd z∧o'+n'≤z.length∧n'≤c'∧win z o' n'=wds (x-y)∧Own w' rb 34 (z.flatMap u64c)):=by
 have hmo:UpM [rb] w h w h:=UpM.refl g;obtain ⟨wz,hz,hs⟩:=SS.at_ g ho hj;have hl0_:l0.length=l0.length:=rfl;replace hs:=hs.aS hD;have hwn:n=(wds x).length:=by rw[←hwin,win_len hon]
 have hlm:=wds_len_mono hyx;refine go Tryz.func178 [(0,qS (some ⟨rb,o,none⟩) n c),(1,qS D m d)] rfl (cSLlL hs [.v 4 (sZ)] (lNS (lL hs [.v 5 (uV 0)] (lNcQ (cSLlL hs [.m 8 0,.v 9 (nV n),.v 10 (iV 0)] (lNkZ ?_))))));refine cTo _ (CG.loop (fun μ_ Γ w_=>∃ (i:Nat) (l:List Nat) (bo:Nat) (h_:Hp),μ_=n-i∧Γ=[(0,qS (some ⟨rb,o,none⟩) n c),(1,qS D m d),(4,sZ),(9,nV n),(10,nV i),(5,mV bo)]∧SS wz hz w_ h_ [⟨rb,34,(l).flatMap u64c⟩] [] [fun h_=>SlO 1 u64c 0 h_ D (wds y)]∧i≤n∧l.length=l0.length∧Wd l∧bo≤1∧bval 18446744073709551616 (win l o n)+bval 18446744073709551616 ((wds y).take i)=x+18446744073709551616^i*bo∧UpM [rb] w h w_ h_) _ ⟨0,l0,0,h,rfl,rfl,hs.to _ _,Nat.zero_le _,rfl,hW0,oM,(by have hx_:bval 18446744073709551616 (wds x)=x:=wval_wds x;rw[hwin,hx_];simp[bval]),hmo⟩ ?_);rintro _ _ w1 ⟨i,l,bo,h2,hm3,rfl,hs,hi,hll,hW,hbo,inv,hmo⟩;have hlk:=hW.get (o+i);have hyk:=(Wd.wds y).get i;have hwg:=win_get (l:=l) (o:=o) (n:=n) (j:=i);refine cSL ?_;cases hb4:(decide ((i:Int)<(n:Int)))
 ·
  have phb4:=oF hb4;refine lB 11 hb4 (lNcQ (cIF (CG.exit ?_)))
  show CG _ _ _ _ _ _ _ _
  refine cSLlL hs [.m 35 0] (lClu 36 0 hs (fun _ g_ f_ sg_=>wTrim (some ⟨rb,o,none⟩) c (win l o n) n (win_len oM) (by rw[win_len oM];omega) (by rw[win_len oM];omega) _ _ g_ (SlO.win (f:=u64c) (d:=0) (b:=rb) (l:=l) (fun _=>rfl) sg_ o n)) ?_);rintro _ w5 h6 u7 hs rfl;replace hmo:=hmo.trans (u7.m _);refine lL hs [.m 4 36] (lN (kX ?_));have hiN:i=n:=by omega
  have hZl:(win l o n).length=n:=win_len oM;rw[List.take_of_length_le (show (wds y).length≤i by omega),hiN] at inv
  have hZW:Wd (win l o n):=hW.win _ _;have hE:wval (win l o n)=x-y:=sub_end hZW (by rw[hZl];have hb_:bval 18446744073709551616 (wds y)=y:=wval_wds y;rw[hb_] at inv;exact inv) oM hbo;have hwm:=wds_of hZW;rw[hE,hZl] at hwm
  have htl:=tl_le (win l o n) n;exact hs.retM hmo [] (qS (some ⟨rb,o,none⟩) (tl (win l o n) n) c) ⟨l,o,_,_,rfl,hll,hW,by omega,by omega,(by rw[hwm];exact (win_take htl).symm),hs.own 0⟩
 have phb4:=oT hb4;refine lB 11 hb4 (lNcQ (cIT (cK (cQ (kZ (cSLlL hs [.m 12 10,.m 6 12] (lNS (lL hs [.v 7 (uV 0)] (lNcQ (cSLlL hs [.m 13 6,.m 14 1,.v 15 (nV m)] ?_))))))))));cases hb8:(decide ((i:Int)<(m:Int)))
 ·
  have phb8:=oF hb8;refine lB 16 hb8 (lNIF (cK (kQ (lL hs [.m 22 0,.m 23 6,.m 24 0,.m 25 6] (lXo 26 rb o n c 1 (i:Nat) i (o+i) ?_)))));refine lQ 27 0 l u64c 1 0 (o+i) (mV ((l).getD (o+i) 0)) hs oM (lL hs [.m 28 7,.m 29 5] ?_);obtain ⟨s9,za,he11,hl12,hm13,hr14⟩:=bSub64 ((l).getD (o+i) 0) 0 bo wM wM oM;refine lV 30 (.tuple #[mV s9,mV za]) ?_ (hr:=opExt kR (hr14 _));refine lL hs [.m 21 30,.v 31 (mV s9),.v 32 (mV za)] (lXo 33 rb o n c 1 (i:Nat) i (o+i) ?_);refine lWu 0 l u64c 1 (o+i) s9 hs oM (fun _ pu hs=>?_);replace hmo:=hmo.put pu (List.mem_singleton.2 rfl) hs.g;have zc:((l).set (o+i) s9).length=l0.length:=by rw[List.length_set];exact hll
  replace hs:=hs.to [⟨rb,34,((l).set (o+i) s9).flatMap u64c⟩] [];refine lL hs [.m 5 32] (lN (kQ (lIn 34 ((i:Nat)+1) (i+1) ?_)));refine lL hs [.m 10 34] (lD ?_);intro a_ ka;refine ⟨_,_,?_,⟨i+1,(l).set (o+i) s9,za,h2,rfl,rfl,hs.to _ _,oM,zc,(hW.set _ oM),oM,(by rw[win_set oM];exact sub_step (by rw[win_len oM];omega) inv (by rw[hwg oM];first|omega|(have hy0:=getD_out (l:=wds y) (k:=i) oM;omega))),hmo⟩,ka.to _ kR⟩
  omega
 have phb8:=oT hb8;refine lB 16 hb8 (lNIT (kQ (lL hs [.m 17 1,.m 18 6] (lX 19 D m d 1 (i:Nat) i ((hs.f.1).ok oM) ?_))));refine lH 20 (mV ((wds y).getD i 0)) hs ((hs.f.1).el i oM) (lL hs [.m 7 20] (lN (kQ (lL hs [.m 22 0,.m 23 6,.m 24 0,.m 25 6] (lXo 26 rb o n c 1 (i:Nat) i (o+i) ?_)))));refine lQ 27 0 l u64c 1 0 (o+i) (mV ((l).getD (o+i) 0)) hs oM (lL hs [.m 28 7,.m 29 5] ?_);obtain ⟨s23,zb,he25,hl26,hm27,hr28⟩:=bSub64 ((l).getD (o+i) 0) ((wds y).getD i 0) bo wM wM oM;refine lV 30 (.tuple #[mV s23,mV zb]) ?_ (hr:=opExt kR (hr28 _));refine lL hs [.m 21 30,.v 31 (mV s23),.v 32 (mV zb)] (lXo 33 rb o n c 1 (i:Nat) i (o+i) ?_);refine lWu 0 l u64c 1 (o+i) s23 hs oM (fun _ pu hs=>?_);replace hmo:=hmo.put pu (List.mem_singleton.2 rfl) hs.g;have zd:((l).set (o+i) s23).length=l0.length:=by rw[List.length_set];exact hll
 replace hs:=hs.to [⟨rb,34,((l).set (o+i) s23).flatMap u64c⟩] [];refine lL hs [.m 5 32] (lN (kQ (lIn 34 ((i:Nat)+1) (i+1) ?_)));refine lL hs [.m 10 34] (lD ?_);intro a_ ka;refine ⟨_,_,?_,⟨i+1,(l).set (o+i) s23,zb,h2,rfl,rfl,hs.to _ _,oM,zd,(hW.set _ oM),oM,(by rw[win_set oM];exact sub_step (by rw[win_len oM];omega) inv (by rw[hwg oM];first|omega|(have hy0:=getD_out (l:=wds y) (k:=i) oM;omega))),hmo⟩,ka.to _ kR⟩
 omega
theorem Tz.le {n k m:Nat}(t:Tz n k m):m≤n:=by rw[t.1];exact Nat.le_mul_of_pos_left m (Nat.two_pow_pos k)
theorem cmpN_cases (a b:Nat):(cmpN a b=0∧a=b)∨(cmpN a b = -1∧a<b)∨(cmpN a b=1∧b<a):=by
  rcases Nat.lt_trichotomy a b with h|h|h
  · exact .inr (.inl ⟨cmpN_lt h,h⟩)
  · exact .inl ⟨cmpN_eq h,h⟩
  · exact .inr (.inr ⟨cmpN_gt h,h⟩)
theorem wCompareW (A:Option Addr)(c:Nat)(D:Option Addr)(d:Nat)(x y n m_:Nat)(lx ly:List Nat)(ex:lx=wds x)(ey:ly=wds y)(hn:lx.length=n)(hm_:ly.length=m_)(hlx:n≤1000000000)(hly:m_≤1000000000)(w:World)(h:Hp)(g:G w h)(hA:SlO 1 u64c 0 h A lx)(hD:SlO 1 u64c 0 h D ly):CV 177 #[.slice A n c,.slice D m_ d] w h (iV (cmpN x y)):=by
  subst ex ey;exact wCompare A c D d x y n m_ hn hm_ oM oM w h g hA hD
theorem wNumW (A:Option Addr)(c:Nat)(l:List Nat)(n x:Nat)(ex:l=wds x)(hn:l.length=n)(hl:n≤1000000000)(w:World)(h:Hp)(g:G w h)(hA:SlO 1 u64c 0 h A l):CV 179 #[.slice A n c] w h (nv x):=by
  subst ex;have:=wNumber A c (wds x) n hn (Wd.wds x) oM w h g hA
  rwa [wval_wds] at this
theorem wSubtW (rb:Nat)(l0:List Nat)(o n c x:Nat)(hl0:l0.length≤1000000000)(hon:o+n≤l0.length)(hnc:n≤c)(hW0:Wd l0)(hwin:win l0 o n=wds x)(D:Option Addr)(d y m:Nat)(ly:List Nat)(ey:ly=wds y)(hm:ly.length=m)(hmd:m≤d)(hyx:y≤x)(w:World)(h:Hp)(g:G w h)(ho:Own w rb 34 (l0.flatMap u64c))(hj:h[rb]?=some junk)(hD:SlO 1 u64c 0 h D ly):Calls Tryz.prog 178 #[.slice (some ⟨rb,o,none⟩) n c,.slice D m d] w (RetM rb w h fun v w' _=>∃ z:List Nat,∃ o' n' c':Nat,v=.slice (some ⟨rb,o',none⟩) n' c'∧z.length=l0.length∧Wd z∧o'+n'≤z.length∧n'≤c'∧win z o' n'=wds (x-y)∧Own w' rb 34 (z.flatMap u64c)):=by
  subst ey;exact wSubt rb l0 o n c x hl0 hon hnc hW0 hwin D d y m hm hmd hyx w h g ho hj hD
theorem wBinary (x y:Nat)(hx:0<x)(hy:0<y)(hlx:(wds x).length≤1000000000)(hly:(wds y).length≤1000000000)(w:World)(h:Hp)(g:G w h)(tb:Tab h):CV 148 #[nv x,nv y] w h (nv (Nat.gcd x y)):=by
 have hs:=((sS g).aB tb);have hpx:=hx;have hpy:=hy;refine go Tryz.func148 [(0,nv x),(1,nv y)] rfl (cSL (lA 2 36 (nc x) hs (fun b1 w2 h3 hs=>lA 3 36 (nc y) hs (fun b4 w5 h6 hs=>lA 4 36 ([uV 0,eS]) hs (fun b7 w8 h9 hs=>lNcQ ?_)))));obtain ⟨K_,hK_⟩:∃ K_,K_=w8.heap.size:=⟨_,rfl⟩;have hk_b7:b7<K_:=by rw[hK_];exact zblk hs 0
 have hk_b4:b4<K_:=by rw[hK_];exact zblk hs 1
 have hk_b1:b1<K_:=by rw[hK_];exact zblk hs 2
 refine cRa ⟨[],some (K_,[])⟩ 0 mixed ?_;have hszK:=hs.g.size;replace hs:=hs.drew;have hKl:=Nat.le_of_eq hK_;refine zO 0 10 [(2,0,2)] (nv x) rfl hKl hs (fun p hp=>by obtain rfl:=List.mem_singleton.1 hp;exact hk_b1) (zO 2 12 [(1,0,2)] (nv y) rfl hKl hs (fun p hp=>by obtain rfl:=List.mem_singleton.1 hp;exact hk_b4) (zCu 1 11 (wWords x oM oM _ _ hs.g) rfl hKl ?_));rintro _ _ _ u12 hKl ⟨bwx,rfl,hlox,hbcx,hslx⟩;obtain ⟨_,hs,-,-⟩:=hs.take u12 hlox hbcx;replace hs:=hs.to [⟨bwx,34,(wds x).flatMap u64c⟩,⟨b7,36,[uV 0,eS]⟩,⟨b4,36,nc y⟩,⟨b1,36,nc x⟩] [];refine zCu 3 13 (wWords y oM oM _ _ hs.g) rfl hKl ?_;rintro _ _ _ u16 hKl ⟨bwy,rfl,hloy,hbcy,hsly⟩;obtain ⟨_,hs,-,-⟩:=hs.take u16 hloy hbcy;replace hs:=hs.to [⟨bwy,34,(wds y).flatMap u64c⟩,⟨bwx,34,(wds x).flatMap u64c⟩,⟨b7,36,[uV 0,eS]⟩,⟨b4,36,nc y⟩,⟨b1,36,nc x⟩] [];refine zV 4 5 (qS (sB bwx) ((wds x).length) ((wds x).length)) (zV 5 6 (qS (sB bwy) ((wds y).length) ((wds y).length)) (tNS (lL hs [.m 14 5] (lCl 15 1 hs (fun _ g_ f_ sg_=>wZeros (sB bwx) (wds x).length (wds x) (wds x).length rfl (Wd.wds x) (by rw[wval_wds];omega) oM _ _ g_ (f_.1) (SlO.of_flat (sz:=1) (f:=u64c) (d:=0) (b:=bwx) (o:=0) (l:=wds x) (fun _=>rfl) sg_)) ?_))));rintro _ _ _ hs ⟨kx,mx,rfl,htx,hkx⟩;rw[wval_wds] at htx
 refine lL hs [.m 16 6] (lCl 17 0 hs (fun _ g_ f_ sg_=>wZeros (sB bwy) (wds y).length (wds y) (wds y).length rfl (Wd.wds y) (by rw[wval_wds];omega) oM _ _ g_ (f_.1) (SlO.of_flat (sz:=1) (f:=u64c) (d:=0) (b:=bwy) (o:=0) (l:=wds y) (fun _=>rfl) sg_)) ?_);rintro _ _ _ hs ⟨ky,my,rfl,hty,hky⟩;rw[wval_wds] at hty
 refine lV 18 (nV (min kx ky)) ?_ (hr:=rint (n:=if (ky:Int)<(kx:Int) then (ky:Int) else (kx:Int)) kR (by split<;>omega));refine lL hs [.m 7 18] (lNS (lL hs [.m 19 5] (lCm 20 (wDown bwx (wds x) 0 ((wds x).length) ((wds x).length) x hpx oM oM (nR _) (Wd.wds x) (win_all _ _ (nR _)) _ _ hs.g (hs.own 1) (hs.jk 1) hs.f.1) ?_)));rintro _ _ _ u27 ⟨z24,o24,n24,zl,rfl,hzl24,hzW24,hzo24,hzc24,⟨kk24,mm24,htt24,hzw24⟩,hO24⟩;replace hs:=(hs.stepM 1 u27 hO24).to [⟨bwy,34,(wds y).flatMap u64c⟩,⟨bwx,34,(z24).flatMap u64c⟩,⟨b7,36,[uV 0,eS]⟩,⟨b4,36,nc y⟩,⟨b1,36,nc x⟩] [];have hmp24:=htt24.odd_pos;have hle24:=htt24.le;refine lL hs [.m 21 6] (lCm 22 (wDown bwy (wds y) 0 ((wds y).length) ((wds y).length) y hpy oM oM (nR _) (Wd.wds y) (win_all _ _ (nR _)) _ _ hs.g (hs.own 0) (hs.jk 0) hs.f.1) ?_);rintro _ _ zm u31 ⟨z28,o28,n28,zn,rfl,hzl28,hzW28,hzo28,hzc28,⟨kk28,mm28,htt28,hzw28⟩,hO28⟩;replace hs:=(hs.stepM 0 u31 hO28).to [⟨bwy,34,(z28).flatMap u64c⟩,⟨bwx,34,(z24).flatMap u64c⟩,⟨b7,36,[uV 0,eS]⟩,⟨b4,36,nc y⟩,⟨b1,36,nc x⟩] [];have hmp28:=htt28.odd_pos;have hle28:=htt28.le;refine lL hs [.m 5 20,.m 6 22] (lNcQ (kZ ?_));refine cTo _ (CG.loop (fun μ_ Γ w_=>∃ (pv:Nat) (l1:List Nat) (o1:Nat) (n1:Nat) (c1:Nat) (pw:Nat) (l2:List Nat) (o2:Nat) (n2:Nat) (c2:Nat) (x1:Nat) (y1:Nat) (h_:Hp),μ_=x1+y1∧Γ=[(4,pB b7),(7,nV (min kx ky)),(5,qS (some ⟨pv,o1,none⟩) n1 c1),(6,qS (some ⟨pw,o2,none⟩) n2 c2)]∧SS w h w_ h_ [⟨pw,34,(l2).flatMap u64c⟩,⟨pv,34,(l1).flatMap u64c⟩,⟨b7,36,[uV 0,eS]⟩,⟨b4,36,nc y⟩,⟨b1,36,nc x⟩] [] [fun h_=>Tab h_]∧l1.length≤1000000000∧Wd l1∧o1+n1≤l1.length∧n1≤c1∧win l1 o1 n1=wds x1∧0<x1∧l2.length≤1000000000∧Wd l2∧o2+n2≤l2.length∧n2≤c2∧win l2 o2 n2=wds y1∧0<y1∧x1%2=1∧y1%2=1∧Nat.gcd x1 y1*2^min kx ky=Nat.gcd x y) _ ⟨bwx,z24,o24,n24,zl,bwy,z28,o28,n28,zn,mm24,mm28,zm,rfl,rfl,hs.to _ _,oM,hzW24,hzo24,hzc24,hzw24,hmp24,oM,hzW28,hzo28,hzc28,hzw28,hmp28,htt24.2,htt28.2,(by rw[(htx.uniq htt24).1,(hty.uniq htt28).1];exact (gcd_twos htt24 htt28).symm)⟩ ?_);rintro _ _ _ ⟨pv,l1,o1,n1,c1,pw,l2,o2,n2,c2,x1,y1,_,hm34,rfl,hs,hl1,hW1,hon1,hnc1,hwin1,hx1,hl2,hW2,hon2,hnc2,hwin2,hy1,hxo,hyo,hG⟩;have hcmp:=cmpN_cases x1 y1;have hwl1:=congrArg List.length hwin1;rw[win_len hon1] at hwl1
 have hwl2:=congrArg List.length hwin2;rw[win_len hon2] at hwl2
 refine kZ (cSLlL hs [.m 23 5,.m 24 6] (lCl2 25 1 0 hs (fun _ g_ f_ sg_ sh_=>wCompareW (some ⟨pv,o1,none⟩) c1 (some ⟨pw,o2,none⟩) c2 x1 y1 n1 n2 (win l1 o1 n1) (win l2 o2 n2) hwin1 hwin2 (win_len hon1) (win_len hon2) oM oM _ _ g_ (SlO.win (f:=u64c) (d:=0) (b:=pv) (l:=l1) (fun _=>rfl) sg_ o1 n1) (SlO.win (f:=u64c) (d:=0) (b:=pw) (l:=l2) (fun _=>rfl) sh_ o2 n2)) ?_));rintro _ _ _ hs rfl;refine lL hs [.m 8 25] (lNcQ (cSLlL hs [.m 26 8] ?_));cases za:((cmpN x1 y1:Int) == (0:Int))
 ·
  have zd:=neOfBeq za;refine lB 27 za (lNIF (cK (cQ (cSLlL hs [.m 28 8] ?_))));cases zb:(decide ((cmpN x1 y1:Int)<(0:Int)))
  ·
   have ze:=oF zb;refine lB 29 zb (lNIF (cK (kQ (lL hs [.m 32 5,.m 33 6] (lCml 34 1 0 hs (fun _ g_ f_ hj_ sh_=>wSubtW pv l1 o1 n1 c1 x1 oM hon1 hnc1 hW1 hwin1 (some ⟨pw,o2,none⟩) c2 y1 n2 (win l2 o2 n2) hwin2 (win_len hon2) hnc2 oM _ _ g_ (hs.own 1) hj_ (SlO.win (f:=u64c) (d:=0) (b:=pw) (l:=l2) (fun _=>rfl) sh_ o2 n2)) ?_)))));rintro _ _ _ u44 ⟨s41,so41,sn41,sc41,rfl,hsl41,hsW41,hso41,hsc41,hsw41,zi⟩;replace hs:=(hs.stepM 1 u44 zi).to [⟨pw,34,(l2).flatMap u64c⟩,⟨pv,34,(s41).flatMap u64c⟩,⟨b7,36,[uV 0,eS]⟩,⟨b4,36,nc y⟩,⟨b1,36,nc x⟩] [];refine lCm 35 (wDown pv s41 so41 sn41 sc41 (x1-y1) oM oM hso41 hsc41 hsW41 hsw41 _ _ hs.g (hs.own 1) (hs.jk 1) hs.f.1) ?_;rintro _ _ zo u48 ⟨z45,o45,n45,zp,rfl,hzl45,hzW45,hzo45,hzc45,⟨kk45,mm45,htt45,hzw45⟩,hO45⟩;replace hs:=(hs.stepM 1 u48 hO45).to [⟨pw,34,(l2).flatMap u64c⟩,⟨pv,34,(z45).flatMap u64c⟩,⟨b7,36,[uV 0,eS]⟩,⟨b4,36,nc y⟩,⟨b1,36,nc x⟩] [];have hmp45:=htt45.odd_pos;have hle45:=htt45.le;refine lL hs [.m 5 35] (lD ?_);intro a_ ka;refine ⟨_,_,?_,⟨pv,z45,o45,n45,zp,pw,l2,o2,n2,c2,mm45,y1,zo,rfl,rfl,hs.to _ _,oM,hzW45,hzo45,hzc45,hzw45,hmp45,oM,hW2,hon2,hnc2,hwin2,hy1,htt45.2,hyo,(by rw[gcd_sub oM hyo htt45];exact hG)⟩,ka.to _ kR⟩
   omega
  have ze:=oT zb;refine lB 29 zb (lNIT (kQ (lL hs [.m 30 6,.m 31 5,.m 5 30,.m 6 31] (lN (kQ (lL hs [.m 32 5,.m 33 6] (lCml 34 0 1 hs (fun _ g_ f_ hj_ sh_=>wSubtW pw l2 o2 n2 c2 y1 oM hon2 hnc2 hW2 hwin2 (some ⟨pv,o1,none⟩) c1 x1 n1 (win l1 o1 n1) hwin1 (win_len hon1) hnc1 oM _ _ g_ (hs.own 0) hj_ (SlO.win (f:=u64c) (d:=0) (b:=pv) (l:=l1) (fun _=>rfl) sh_ o1 n1)) ?_)))))));rintro _ _ _ u67 ⟨s64,so64,sn64,sc64,rfl,hsl64,hsW64,hso64,hsc64,hsw64,zj⟩;replace hs:=(hs.stepM 0 u67 zj).to [⟨pw,34,(s64).flatMap u64c⟩,⟨pv,34,(l1).flatMap u64c⟩,⟨b7,36,[uV 0,eS]⟩,⟨b4,36,nc y⟩,⟨b1,36,nc x⟩] [];refine lCm 35 (wDown pw s64 so64 sn64 sc64 (y1-x1) oM oM hso64 hsc64 hsW64 hsw64 _ _ hs.g (hs.own 0) (hs.jk 0) hs.f.1) ?_;rintro _ _ zq u71 ⟨z68,o68,n68,zr,rfl,hzl68,hzW68,hzo68,hzc68,⟨kk68,mm68,htt68,hzw68⟩,hO68⟩;replace hs:=(hs.stepM 0 u71 hO68).to [⟨pw,34,(z68).flatMap u64c⟩,⟨pv,34,(l1).flatMap u64c⟩,⟨b7,36,[uV 0,eS]⟩,⟨b4,36,nc y⟩,⟨b1,36,nc x⟩] [];have hmp68:=htt68.odd_pos;have hle68:=htt68.le;refine lL hs [.m 5 35] (lD ?_);replace hs:=hs.perm (List.Perm.swap _ _ _);intro a_ ka;refine ⟨_,_,?_,⟨pw,z68,o68,n68,zr,pv,l1,o1,n1,c1,mm68,x1,zq,rfl,rfl,hs.to _ _,oM,hzW68,hzo68,hzc68,hzw68,hmp68,oM,hW1,hon1,hnc1,hwin1,hx1,htt68.2,hxo,(by rw[gcd_sub oM hxo htt68,Nat.gcd_comm];exact hG)⟩,ka.to _ kR⟩
  omega
 have zd:=eq_of_beq za;refine lB 27 za (lNIT (CG.exit ?_))
 show CG _ _ _ _ _ _ _ _
 refine cSLlL hs [.m 36 5] (lCl 37 1 hs (fun _ g_ f_ sg_=>wNumW (some ⟨pv,o1,none⟩) c1 (win l1 o1 n1) n1 x1 hwin1 (win_len hon1) oM _ _ g_ (SlO.win (f:=u64c) (d:=0) (b:=pv) (l:=l1) (fun _=>rfl) sg_ o1 n1)) ?_);rintro _ _ _ hs rfl;refine lA 9 36 ([uV 0,eS]) hs (fun zg _ zs hs=>lP 0 0 (nc x1) hs (fun _ hs=>lNcQ (kZ ?_)));refine cTo _ (CG.loop (fun μ_ Γ w_=>∃ (z:Int) (a:Nat) (h_:Hp),μ_=z.toNat∧Γ=[(4,pB b7),(9,pB zg),(7,iV z)]∧SS w h w_ h_ [⟨zg,36,nc a⟩,⟨pw,34,(l2).flatMap u64c⟩,⟨pv,34,(l1).flatMap u64c⟩,⟨b7,36,[uV 0,eS]⟩,⟨b4,36,nc y⟩,⟨b1,36,nc x⟩] [] [fun h_=>Tab h_]∧z≤64000000000∧a*2^z.toNat=Nat.gcd x y) _ ⟨((min kx ky:Nat):Int),x1,zs,rfl,rfl,hs.to _ _,oM,(by rw[show x1=y1 by omega,Nat.gcd_self] at hG;rw[show x1=y1 by omega];rw[show (((min kx ky:Nat):Int)).toNat=min kx ky by omega];exact hG)⟩ ?_);rintro _ _ _ ⟨z,a,_,hm97,rfl,hs,hz,ha⟩;refine cQ (cSLlL hs [.m 38 7] ?_);cases zc:(decide ((0:Int)<(z:Int)))
 ·
  have zf:=oF zc;refine lB 39 zc (lNIF (CG.exit ?_))
  show CG _ _ _ _ _ _ _ _
  exact cSLlL hs [.o 46 (nv a) 0 0 2] (lP 3 0 (nc a) hs (fun _ hs=>lNkXr hs [(3,0,2)] (nv a) (by rw[show z.toNat=0 by omega,Nat.pow_zero,Nat.mul_one] at ha;rw[ha])))
 have zf:=oT zc;refine lB 39 zc (lNIT (cK (cQ (kZ (kQ (lL hs [.o 42 (nv a) 0 0 2,.m 43 7] (lV 44 (nV (min z.toNat 65536)) ?_ (hr:=rint (n:=if (65536:Int)<z then (65536:Int) else z) kR (by split<;>omega)))))))));refine lCval 45 hs (nShift a (min z.toNat 65536) (by have:=wds_len_mono (show a≤x by exact Nat.le_trans (Nat.le_mul_of_pos_right a (Nat.two_pow_pos z.toNat)) (by rw[ha];exact Nat.gcd_le_left y hx));omega) oM _ _ hs.g) (fun _ zk hs=>lP 0 0 (nc (a*2^min z.toNat 65536)) hs (fun _ hs=>lN (kQ (lL hs [.m 40 7] (lI 41 (z-65536) ?_)))));refine lL hs [.m 7 41] (lD ?_);intro a_ ka;refine ⟨_,_,?_,⟨z-65536,a*2^min z.toNat 65536,zk,rfl,rfl,hs.to _ _,oM,(by rw[Nat.mul_assoc,←Nat.pow_add,show min z.toNat 65536+(z-65536).toNat=z.toNat by omega];exact ha)⟩,ka.to _ kR⟩
 omega
theorem nb_cases (n:Nat):(n=0∧nb n=0)∨(0<n∧0<nb n):=by
  rcases Nat.eq_zero_or_pos n with h|h
  · subst h;exact .inl ⟨rfl,rfl⟩
  · exact .inr ⟨h,(nb_spec h).2.2⟩
theorem gcd_mod_swap (x y:Nat):Nat.gcd y (x%y)=Nat.gcd x y:=by rw[Nat.gcd_comm y,←Nat.gcd_rec,Nat.gcd_comm]
theorem nSmall (n:Nat)(w:World)(h:Hp)(g:G w h):CR 147 #[nv n] w h (fun v _=>∃ s:Nat,∃ ok:Bool,v=.tuple #[mV s,.bool ok]∧(ok=true→s=n∧n<18446744073709551616)):=by
  rcases Nat.lt_or_ge n 18446744073709551616 with hn|hn
  · refine (nSmallS n hn w h g).mono ?_
    rintro _ w' ⟨_,h',rfl,u,rfl⟩;exact ⟨_,h',rfl,u,n,true,rfl,fun _=>⟨rfl,hn⟩⟩
  · refine (nSmallB n hn w h g).mono ?_
    rintro _ w' ⟨_,h',rfl,u,rfl⟩;exact ⟨_,h',rfl,u,0,false,rfl,fun e=>by cases e⟩
theorem wGcd (a b:Int)(hla:(wds (iabs a)).length≤1000000000)(hlb:(wds (iabs b)).length≤1000000000)(w:World)(h:Hp)(g:G w h)(tb:Tab h):CV 109 #[iv a,iv b] w h (nv (Nat.gcd (iabs a) (iabs b))):=by
 have hs:=((sS g).aB tb);refine go Tryz.func109 [(0,iv a),(1,iv b)] rfl (cSL (lA 2 38 (ic a) hs (fun b1 w2 h3 hs=>lA 3 38 (ic b) hs (fun b4 w5 h6 hs=>lA 4 36 ([uV 0,eS]) hs (fun b7 w8 h9 hs=>lNcQ ?_)))));have hsr:=hs;refine cRz 6 [⟨4,5,.cells (List.toArray [uV 0,eS]) 36 (0,0)⟩,⟨5,6,.cells (List.toArray [uV 0,eS]) 36 (0,0)⟩] [] mixed hs (al_cons (alOk kR (fun _ _=>by kernel_rfl)) (al_cons (alOk kR (fun _ _=>by kernel_rfl)) al_nil)) (eV 0 14 (qP b1 1) (eO 1 15 [(2,1,2)] (nv (iabs a)) hs (eV 2 16 (qP b4 1) (eOz 3 17 [(1,1,2)] (nv (iabs b)) hsr hs (eD2z hsr hs 36 [uV 0,eS] 36 [uV 0,eS] (fun _ _ za zb hz14 hz15 hs=>tP 6 0 0 (nc (iabs a)) hs (fun _ hs=>?_) (hz:=tlz_new hz14)))))));refine tP 7 1 0 (nc (iabs b)) hs (fun _ hs=>?_) (hz:=tlz_new hz15);refine tN (cQ (cSLlL hs [.o 18 (nv (iabs a)) 0 0 2,.o 19 (nv (iabs b)) 1 0 2] (lCval 20 hs (nCmp (iabs a) (iabs b) aM aM _ _ hs.g) (fun _ _ hs=>?_))));have hcm:=cmpN_cases (iabs a) (iabs b);cases zc:(decide ((cmpN (iabs a) (iabs b):Int)<(0:Int)))
 ·
  have zm:=oF zc;refine lB 21 zc (lNIF (cK (cQ (cSL ?_))));have hgc:Nat.gcd (iabs a) (iabs b)=Nat.gcd (iabs a) (iabs b):=by first|rfl|exact Nat.gcd_comm _ _
  refine lL hs [.o 24 (nv (iabs b)) 1 0 2] (lCval 25 hs (nBits (iabs b) (by first|assumption|exact wds_len_le (Nat.le_of_lt (Nat.mod_lt _ oM)) aM) _ _ hs.g) (fun _ _ hs=>?_));have hnb4:=nb_cases (iabs b);cases zd:(((nb (iabs b):Nat):Int) == (0:Int))
  ·
   have zn:=neOfBeq zd;refine lB 26 zd (lNIF (cK (cSLlL hs [.o 29 (nv (iabs a)) 0 0 2,.o 30 (nv (iabs b)) 1 0 2] (lCval 31 hs (nDiv (iabs a) (iabs b) oM aM aM _ _ hs.g) (fun _ _ hs=>?_)))));have hmd:=Nat.mod_lt (iabs a) (show 0<(iabs b) by omega);refine lL hs [.m 28 31,.v 32 (nv ((iabs a)/(iabs b))),.v 33 (nv ((iabs a)%(iabs b))),.v 34 qT] (lA 7 36 ([uV 0,eS]) hs (fun zu _ _ hs=>lA 8 36 ([uV 0,eS]) hs (fun zv _ _ hs=>lP 1 0 (nc ((iabs a)/(iabs b))) hs (fun _ hs=>lP 0 0 (nc ((iabs a)%(iabs b))) hs (fun _ hs=>lL hs [.m 9 34] (lNcQ ?_))))));have hsr:=hs;refine cRz 2 [] [za,zb] mixed hs al_nil (eO 0 35 [(3,0,2)] (nv (iabs b)) hs (eOz 1 36 [(0,0,2)] (nv ((iabs a)%(iabs b))) hsr hs ?_ (hM:=fun p hp=>by obtain rfl:=List.mem_singleton.1 hp;exact fun hm=>by rcases List.mem_cons.1 hm with e|hm;exact bx_ne hs.st (i:=0) (j:=2) kR kR kR e;rcases List.mem_cons.1 hm with e|hm;exact bx_ne hs.st (i:=0) (j:=3) kR kR kR e;cases hm)));refine eD0 hs (fun _ _ hs=>tP 2 2 0 (nc (iabs b)) hs (fun _ hs=>?_) (hz:=tlz_mem (List.mem_cons_self)));refine tP 3 3 0 (nc ((iabs a)%(iabs b))) hs (fun _ hs=>?_) (hz:=tlz_mem (List.mem_cons_of_mem _<|List.mem_cons_self));refine tN (cQ (cSL ?_));have hg2:Nat.gcd (iabs b) ((iabs a)%(iabs b))=Nat.gcd (iabs a) (iabs b):=by rw[←hgc];exact gcd_mod_swap _ _
   refine lL hs [.o 37 (nv ((iabs a)%(iabs b))) 3 0 2] (lCval 38 hs (nBits ((iabs a)%(iabs b)) (by first|assumption|exact wds_len_le (Nat.le_of_lt (Nat.mod_lt _ oM)) aM) _ _ hs.g) (fun _ _ hs=>?_));have hnb8:=nb_cases ((iabs a)%(iabs b));cases ze:(((nb ((iabs a)%(iabs b)):Nat):Int) == (0:Int))
   ·
    have zo:=neOfBeq ze;refine lB 39 ze (lNIF (cK (cQ (cSLlL hs [.o 42 (nv (iabs b)) 2 0 2] (lC 43 hs (nSmall (iabs b) _ _ hs.g) ?_)))));rintro _ _ _ hs ⟨sp,ok,rfl,hok⟩;refine lL hs [.m 41 43,.v 44 (mV sp),.v 45 (.bool ok),.m 10 44,.m 11 45] (lNS (lL hs [.m 46 11] (lN (cTo [(4,pB b7),(6,pB zb),(5,pB za),(10,mV sp),(46,.bool ok)] ?_))));cases zf:(ok)
    ·
     try rw[zf] at hs
     try rw[zf]
     exact cIF (cK (cSLlL hs [.o 60 (nv (iabs b)) 2 0 2,.o 61 (nv ((iabs a)%(iabs b))) 3 0 2] (lCval 62 hs (wBinary (iabs b) ((iabs a)%(iabs b)) oM oM (by first|assumption|exact wds_len_le (Nat.le_of_lt (Nat.mod_lt _ oM)) aM) (by first|assumption|exact wds_len_le (Nat.le_of_lt (Nat.mod_lt _ oM)) aM) _ _ hs.g hs.f.1) (fun _ _ hs=>lP 4 0 (nc (Nat.gcd (iabs b) ((iabs a)%(iabs b)))) hs (fun _ hs=>lNkXr hs [(4,0,2)] (nv (Nat.gcd (iabs b) ((iabs a)%(iabs b)))) (congrArg nv hg2))))))
    try rw[zf] at hs
    try rw[zf]
    refine cIT (cSLlL hs [.o 48 (nv ((iabs a)%(iabs b))) 3 0 2] (lCval 49 hs (nSmallS ((iabs a)%(iabs b)) (by have hok_:=hok aM;omega) _ _ hs.g) (fun _ zw hs=>lL hs [.m 47 49,.v 50 (mV ((iabs a)%(iabs b))),.v 51 qT,.m 12 50,.m 13 51] (lNcQ (kZ ?_)))));refine cTo _ (CG.loop (fun μ_ Γ w_=>∃ (p:Nat) (q:Nat) (h_:Hp),μ_=q∧Γ=[(4,pB b7),(6,pB zb),(5,pB za),(10,mV p),(12,mV q)]∧SS w h w_ h_ [⟨zv,36,nc ((iabs a)%(iabs b))⟩,⟨zu,36,nc ((iabs a)/(iabs b))⟩,⟨za,36,nc (iabs b)⟩,⟨zb,36,nc ((iabs a)%(iabs b))⟩,⟨b7,36,[uV 0,eS]⟩,⟨b4,38,ic b⟩,⟨b1,38,ic a⟩] [] [fun h_=>Tab h_]∧p<18446744073709551616∧q<18446744073709551616∧Nat.gcd p q=Nat.gcd (iabs a) (iabs b)) _ ⟨sp,((iabs a)%(iabs b)),zw,rfl,rfl,hs.to _ _,(by have hok_:=hok aM;omega),(by have hok_:=hok aM;omega),(by rw[(hok aM).1];exact hg2)⟩ ?_);rintro _ _ _ ⟨p,q,_,hm51,rfl,hs,hp,hq,hG⟩;refine cQ (cSLlL hs [.m 52 12] ?_);cases zg:(decide ((0:Int)<(q:Int)))
    ·
     have zp:=oF zg;refine lB 53 zg (lNIF (CG.exit ?_))
     show CG _ _ _ _ _ _ _ _
     exact cSLlL hs [.m 58 10] (lCval 59 hs (nOf p hp _ _ hs.g) (fun _ _ hs=>lP 4 0 (nc p) hs (fun _ hs=>lNkXr hs [(4,0,2)] (nv p) (congrArg nv (by rw[←hG,show q=0 by omega,Nat.gcd_zero_right])))))
    have zp:=oT zg;refine lB 53 zg (lNIT (cK (kZ (cR 4 [] mixed hs al_nil ?_))));refine eV 0 54 (mV q) (eV 1 55 (mV p) (eV 2 56 (mV q) (eV 3 57 (mV (p%q)) ?_ (hv:=fun _=>rint (opRem (t:=34) (u:=34) (x:=.tmp 55) (y:=.tmp 56) (k:=.u64) (a:=(p:Int)) (b:=(q:Int)) kR kR kR oM _) (tmodNat p q)))));refine eD0 hs (fun _ zx hs=>tV 4 10 (mV q) (tV 5 12 (mV (p%q)) (tD ?_)));intro a_ ka;refine ⟨_,_,?_,⟨q,p%q,zx,rfl,rfl,hs.to _ _,hq,(by have:=Nat.mod_lt p (show 0<q by omega);omega),(by rw[gcd_mod_swap];exact hG)⟩,ka.to _ kR⟩;have hmq_:=Nat.mod_lt p (show 0<q by omega)
    omega
   have zo:=eq_of_beq ze;exact lB 39 ze (lNIT (cSLlL hs [.o 40 (nv (iabs b)) 2 0 2] (lP 4 0 (nc (iabs b)) hs (fun _ hs=>lNkXr hs [(4,0,2)] (nv (iabs b)) (congrArg nv (by rw[←hg2,show ((iabs a)%(iabs b))=0 by omega,Nat.gcd_zero_right]))))))
  have zn:=eq_of_beq zd;exact lB 26 zd (lNIT (cSLlL hs [.o 27 (nv (iabs a)) 0 0 2] (lP 2 0 (nc (iabs a)) hs (fun _ hs=>lNkXr hs [(2,0,2)] (nv (iabs a)) (congrArg nv (by rw[←hgc,show (iabs b)=0 by omega,Nat.gcd_zero_right]))))))
 have zm:=oT zc;refine lB 21 zc (lNIT (kQ (lL hs [.o 22 (nv (iabs b)) 1 0 2,.o 23 (nv (iabs a)) 0 0 2] (lP 0 0 (nc (iabs b)) hs (fun _ hs=>lP 1 0 (nc (iabs a)) hs (fun _ hs=>lNcQ (cSL ?_)))))));have hgc:Nat.gcd (iabs b) (iabs a)=Nat.gcd (iabs a) (iabs b):=by first|rfl|exact Nat.gcd_comm _ _
 refine lL hs [.o 24 (nv (iabs a)) 1 0 2] (lCval 25 hs (nBits (iabs a) (by first|assumption|exact wds_len_le (Nat.le_of_lt (Nat.mod_lt _ oM)) aM) _ _ hs.g) (fun _ _ hs=>?_));have hnb4:=nb_cases (iabs a);cases zi:(((nb (iabs a):Nat):Int) == (0:Int))
 ·
  have zq:=neOfBeq zi;refine lB 26 zi (lNIF (cK (cSLlL hs [.o 29 (nv (iabs b)) 0 0 2,.o 30 (nv (iabs a)) 1 0 2] (lCval 31 hs (nDiv (iabs b) (iabs a) oM aM aM _ _ hs.g) (fun _ _ hs=>?_)))));have hmd:=Nat.mod_lt (iabs b) (show 0<(iabs a) by omega);refine lL hs [.m 28 31,.v 32 (nv ((iabs b)/(iabs a))),.v 33 (nv ((iabs b)%(iabs a))),.v 34 qT] (lA 7 36 ([uV 0,eS]) hs (fun zA _ _ hs=>lA 8 36 ([uV 0,eS]) hs (fun zB _ _ hs=>lP 1 0 (nc ((iabs b)/(iabs a))) hs (fun _ hs=>lP 0 0 (nc ((iabs b)%(iabs a))) hs (fun _ hs=>lL hs [.m 9 34] (lNcQ ?_))))));have hsr:=hs;refine cRz 2 [] [za,zb] mixed hs al_nil (eO 0 35 [(3,0,2)] (nv (iabs a)) hs (eOz 1 36 [(0,0,2)] (nv ((iabs b)%(iabs a))) hsr hs ?_ (hM:=fun p hp=>by obtain rfl:=List.mem_singleton.1 hp;exact fun hm=>by rcases List.mem_cons.1 hm with e|hm;exact bx_ne hs.st (i:=0) (j:=2) kR kR kR e;rcases List.mem_cons.1 hm with e|hm;exact bx_ne hs.st (i:=0) (j:=3) kR kR kR e;cases hm)));refine eD0 hs (fun _ _ hs=>tP 2 2 0 (nc (iabs a)) hs (fun _ hs=>?_) (hz:=tlz_mem (List.mem_cons_self)));refine tP 3 3 0 (nc ((iabs b)%(iabs a))) hs (fun _ hs=>?_) (hz:=tlz_mem (List.mem_cons_of_mem _<|List.mem_cons_self));refine tN (cQ (cSL ?_));have hg2:Nat.gcd (iabs a) ((iabs b)%(iabs a))=Nat.gcd (iabs a) (iabs b):=by rw[←hgc];exact gcd_mod_swap _ _
  refine lL hs [.o 37 (nv ((iabs b)%(iabs a))) 3 0 2] (lCval 38 hs (nBits ((iabs b)%(iabs a)) (by first|assumption|exact wds_len_le (Nat.le_of_lt (Nat.mod_lt _ oM)) aM) _ _ hs.g) (fun _ _ hs=>?_));have hnb8:=nb_cases ((iabs b)%(iabs a));cases zj:(((nb ((iabs b)%(iabs a)):Nat):Int) == (0:Int))
  ·
   have zr:=neOfBeq zj;refine lB 39 zj (lNIF (cK (cQ (cSLlL hs [.o 42 (nv (iabs a)) 2 0 2] (lC 43 hs (nSmall (iabs a) _ _ hs.g) ?_)))));rintro _ _ _ hs ⟨sp,ok,rfl,hok⟩;refine lL hs [.m 41 43,.v 44 (mV sp),.v 45 (.bool ok),.m 10 44,.m 11 45] (lN (cTo [(4,pB b7),(6,pB zb),(5,pB za),(10,mV sp),(11,.bool ok)] ?_));refine cSLlL hs [.m 46 11] (lN ?_);cases zk:(ok)
   ·
    try rw[zk] at hs
    try rw[zk]
    exact cIF (cK (cSLlL hs [.o 60 (nv (iabs a)) 2 0 2,.o 61 (nv ((iabs b)%(iabs a))) 3 0 2] (lCval 62 hs (wBinary (iabs a) ((iabs b)%(iabs a)) oM oM (by first|assumption|exact wds_len_le (Nat.le_of_lt (Nat.mod_lt _ oM)) aM) (by first|assumption|exact wds_len_le (Nat.le_of_lt (Nat.mod_lt _ oM)) aM) _ _ hs.g hs.f.1) (fun _ _ hs=>lP 4 0 (nc (Nat.gcd (iabs a) ((iabs b)%(iabs a)))) hs (fun _ hs=>lNkXr hs [(4,0,2)] (nv (Nat.gcd (iabs a) ((iabs b)%(iabs a)))) (congrArg nv hg2))))))
   try rw[zk] at hs
   try rw[zk]
   refine cIT (cSLlL hs [.o 48 (nv ((iabs b)%(iabs a))) 3 0 2] (lCval 49 hs (nSmallS ((iabs b)%(iabs a)) (by have hok_:=hok aM;omega) _ _ hs.g) (fun _ zD hs=>lL hs [.m 47 49,.v 50 (mV ((iabs b)%(iabs a))),.v 51 qT,.m 12 50,.m 13 51] (lNcQ (kZ ?_)))));refine cTo _ (CG.loop (fun μ_ Γ w_=>∃ (p:Nat) (q:Nat) (h_:Hp),μ_=q∧Γ=[(4,pB b7),(6,pB zb),(5,pB za),(10,mV p),(12,mV q)]∧SS w h w_ h_ [⟨zB,36,nc ((iabs b)%(iabs a))⟩,⟨zA,36,nc ((iabs b)/(iabs a))⟩,⟨za,36,nc (iabs a)⟩,⟨zb,36,nc ((iabs b)%(iabs a))⟩,⟨b7,36,[uV 0,eS]⟩,⟨b4,38,ic b⟩,⟨b1,38,ic a⟩] [] [fun h_=>Tab h_]∧p<18446744073709551616∧q<18446744073709551616∧Nat.gcd p q=Nat.gcd (iabs a) (iabs b)) _ ⟨sp,((iabs b)%(iabs a)),zD,rfl,rfl,hs.to _ _,(by have hok_:=hok aM;omega),(by have hok_:=hok aM;omega),(by rw[(hok aM).1];exact hg2)⟩ ?_);rintro _ _ _ ⟨p,q,_,hm95,rfl,hs,hp,hq,hG⟩;refine cQ (cSLlL hs [.m 52 12] ?_);cases zl:(decide ((0:Int)<(q:Int)))
   ·
    have zs:=oF zl;refine lB 53 zl (lNIF (CG.exit ?_))
    show CG _ _ _ _ _ _ _ _
    exact cSLlL hs [.m 58 10] (lCval 59 hs (nOf p hp _ _ hs.g) (fun _ _ hs=>lP 4 0 (nc p) hs (fun _ hs=>lNkXr hs [(4,0,2)] (nv p) (congrArg nv (by rw[←hG,show q=0 by omega,Nat.gcd_zero_right])))))
   have zs:=oT zl;refine lB 53 zl (lNIT (cK (kZ (cR 4 [] mixed hs al_nil ?_))));refine eV 0 54 (mV q) (eV 1 55 (mV p) (eV 2 56 (mV q) (eV 3 57 (mV (p%q)) ?_ (hv:=fun _=>rint (opRem (t:=34) (u:=34) (x:=.tmp 55) (y:=.tmp 56) (k:=.u64) (a:=(p:Int)) (b:=(q:Int)) kR kR kR oM _) (tmodNat p q)))));refine eD0 hs (fun _ zt hs=>tV 4 10 (mV q) (tV 5 12 (mV (p%q)) (tD ?_)));intro a_ ka;refine ⟨_,_,?_,⟨q,p%q,zt,rfl,rfl,hs.to _ _,hq,(by have:=Nat.mod_lt p (show 0<q by omega);omega),(by rw[gcd_mod_swap];exact hG)⟩,ka.to _ kR⟩;have hmq_:=Nat.mod_lt p (show 0<q by omega)
   omega
  have zr:=eq_of_beq zj;exact lB 39 zj (lNIT (cSLlL hs [.o 40 (nv (iabs a)) 2 0 2] (lP 4 0 (nc (iabs a)) hs (fun _ hs=>lNkXr hs [(4,0,2)] (nv (iabs a)) (congrArg nv (by rw[←hg2,show ((iabs b)%(iabs a))=0 by omega,Nat.gcd_zero_right]))))))
 have zq:=eq_of_beq zi;exact lB 26 zi (lNIT (cSLlL hs [.o 27 (nv (iabs b)) 0 0 2] (lP 2 0 (nc (iabs b)) hs (fun _ hs=>lNkXr hs [(2,0,2)] (nv (iabs b)) (congrArg nv (by rw[←hgc,show (iabs a)=0 by omega,Nat.gcd_zero_right]))))))
theorem sgn_part (z:Int)(b:Nat)(hd:(b:Int)∣z):sgn (decide (z.sign<0)) (iabs z/b)=z/b:=by
  obtain ⟨k,rfl⟩:=hd
  rcases Nat.eq_zero_or_pos b with hb|hb
  · subst hb;simp[sgn,iabs]
  have e1:iabs ((b:Int)*k)/b=k.natAbs:=by
    unfold iabs
    rw[Int.natAbs_mul,Int.natAbs_natCast,Nat.mul_div_cancel_left _ hb]
  have e2:((b:Int)*k)/b=k:=Int.mul_ediv_cancel_left _ oM;have e3:((b:Int)*k).sign=k.sign:=by rw[Int.sign_mul,Int.sign_natCast_of_ne_zero oM,Int.one_mul]
  rw[e1,e2,e3]
  unfold sgn
  rcases Int.lt_trichotomy k 0 with h|h|h
  · rw[Int.sign_eq_neg_one_of_neg h];simp;omega
  · subst h;simp
  · rw[Int.sign_eq_one_of_pos h];simp;omega
theorem mkRat_parts (n:Int)(d:Nat)(hd:0<d):(mkRat n d).num=n/(Nat.gcd (iabs n) d:Nat)∧(mkRat n d).den=d/Nat.gcd (iabs n) d∧((Nat.gcd (iabs n) d:Nat):Int)∣n∧0<Nat.gcd (iabs n) d:=by
  have d1:((Nat.gcd (iabs n) d:Nat):Int)∣n:=by
    have h1:Nat.gcd (iabs n) d∣n.natAbs:=Nat.gcd_dvd_left _ _;exact Int.dvd_trans (Int.natCast_dvd_natCast.2 h1) (Int.natAbs_dvd.2 (Int.dvd_refl _))
  unfold mkRat
  rw[dif_neg oM,Rat.normalize_eq];exact ⟨rfl,rfl,d1,Nat.gcd_pos_of_pos_right _ hd⟩
def LQ (k:Nat)(q:Rat):Prop:=(wds (iabs q.num)).length≤k∧(wds q.den).length≤k
theorem wFromN (n:Nat)(w:World)(h:Hp)(g:G w h):CV 47 #[.bool false,nv n] w h (iv (n:Int)):=wFromF n w h g
theorem wGcdE (x y:Int)(d:Nat)(hd:d=Nat.gcd (iabs x) (iabs y))(hla:(wds (iabs x)).length≤1000000000)(hlb:(wds (iabs y)).length≤1000000000)(w:World)(h:Hp)(g:G w h)(tb:Tab h):CV 109 #[iv x,iv y] w h (nv d):=by
  subst hd;exact wGcd x y hla hlb w h g tb
theorem nb_one {n:Nat}:nb n=1↔n=1:=by
  rcases Nat.eq_zero_or_pos n with h|h
  · subst h;simp[nb]
  · have h1:=nb_spec h
    constructor
    · intro e;rw[e] at h1;omega
    · intro e;subst e;rfl
theorem nb_zero_iff {n:Nat}:nb n=0↔n=0:=by
  rcases nb_cases n with ⟨h1,h2⟩|⟨h1,h2⟩<;>omega
theorem qd_one {q:Rat}(h:q.den=1):qd q=0:=by unfold qd;rw[if_pos h]
theorem qd_ne {q:Rat}(h:q.den≠1):qd q=q.den:=by unfold qd;rw[if_neg h]
theorem qd_zero {q:Rat}:qd q=0↔q.den=1:=by
  unfold qd
  have:=q.den_pos
  split<;>omega
theorem isw (q:Rat):(((nb (qd q):Nat):Int) == (0:Int))=decide (q.den=1):=by
  rw[Bool.eq_iff_iff]
  simp only[beq_iff_eq,decide_eq_true_eq]
  rw[←qd_zero,←nb_zero_iff]
  omega
theorem qv_lit {q:Rat}{z:Int}{d:Nat}(hz:q.num=z)(hd:qd q=d):Value.agg #[.bool (ineg z),.int .u64 (lo (iabs z)),.string (hi (iabs z)),.int .u64 (lo d),.string (hi d)]=qv q:=by subst hz hd;rfl
theorem LQ.qd {k:Nat}{q:Rat}(h:LQ k q):(wds (qd q)).length≤k:=by
  unfold Go.Proofs.YthblejkgjjallaaGreatDoor.qd
  split
  · exact Nat.zero_le _
  · exact h.2
theorem fPack (a:Rat)(ha:LQ 1000000000 a)(w:World)(h:Hp)(g:G w h):CV 110 #[iv a.num,nv a.den] w h (qv a):=by
 have hs:=sS g;obtain ⟨ha1,ha2⟩:=ha;have hn1:=@nb_one a.den;refine go Tryz.func110 [(0,iv a.num),(1,nv a.den)] rfl (cSL (lA 2 38 (ic a.num) hs (fun b1 w2 h3 hs=>lA 3 36 (nc a.den) hs (fun b4 w5 h6 hs=>lA 4 40 ([qF,uV 0,eS,uV 0,eS]) hs (fun b7 w8 h9 hs=>lNcQ (cSLlL hs [.o 5 (nv a.den) 1 0 2] (lCval 6 hs (nBits a.den aOM _ _ hs.g) (fun _ _ hs=>?_))))))));cases za:(((nb a.den:Nat):Int) == (1:Int))
 ·
  have zb:=neOfBeq za;exact lB 7 za (lNIF (cK (cSLlL hs [.o 10 (iv a.num) 2 0 3,.o 11 (nv a.den) 1 0 2,.v 12 (.agg #[.bool (ineg a.num),uV (lo (iabs a.num)),.string (hi (iabs a.num)),uV (lo a.den),.string (hi a.den)])] (lP 0 0 ([.bool (ineg a.num),uV (lo (iabs a.num)),.string (hi (iabs a.num)),uV (lo a.den),.string (hi a.den)]) hs (fun _ hs=>lNkXr hs [(0,0,5)] (.agg #[.bool (ineg a.num),uV (lo (iabs a.num)),.string (hi (iabs a.num)),uV (lo a.den),.string (hi a.den)]) (qv_lit (q:=a) (d:=a.den) rfl (qd_ne oM)))))))
 have zb:=eq_of_beq za;exact lB 7 za (lNIT (cSLlL hs [.o 8 (iv a.num) 2 0 3,.v 9 (.agg #[.bool (ineg a.num),uV (lo (iabs a.num)),.string (hi (iabs a.num)),uV 0,eS])] (lP 0 0 ([.bool (ineg a.num),uV (lo (iabs a.num)),.string (hi (iabs a.num)),uV 0,eS]) hs (fun _ hs=>lNkXr hs [(0,0,5)] (.agg #[.bool (ineg a.num),uV (lo (iabs a.num)),.string (hi (iabs a.num)),uV 0,eS]) (qv_lit (q:=a) (d:=0) rfl (qd_one oM))))))
theorem fPackE (q:Rat)(z:Int)(d:Nat)(hz:q.num=z)(hd:d=q.den)(hq:LQ 1000000000 q)(w:World)(h:Hp)(g:G w h):CV 110 #[iv z,nv d] w h (qv q):=by
  subst hz hd;exact fPack q hq w h g
theorem iabs_div_le (z:Int)(g:Nat)(hd:(g:Int)∣z):iabs (z/g)≤iabs z:=by
  unfold iabs
  rcases Nat.eq_zero_or_pos g with h|h
  · subst h;simp
  · obtain ⟨k,rfl⟩:=hd
    rw[Int.mul_ediv_cancel_left _ oM,Int.natAbs_mul,Int.natAbs_natCast];exact Nat.le_mul_of_pos_left _ h
theorem fOver (a b:Nat)(hb:0<b)(hla:(wds a).length≤1000000000)(hlb:(wds b).length≤1000000000)(w:World)(h:Hp)(g:G w h):CV 112 #[nv a,nv b] w h (nv (a/b)):=by
 have hs:=sS g;have hn1:=@nb_one b;refine go Tryz.func112 [(0,nv a),(1,nv b)] rfl (cSL (lA 2 36 (nc a) hs (fun b1 w2 h3 hs=>lA 3 36 (nc b) hs (fun b4 w5 h6 hs=>lA 4 36 ([uV 0,eS]) hs (fun b7 w8 h9 hs=>lNcQ (cSLlL hs [.o 8 (nv b) 1 0 2] (lCval 9 hs (nBits b aOM _ _ hs.g) (fun _ _ hs=>?_))))))));cases za:(((nb b:Nat):Int) == (1:Int))
 ·
  have zb:=neOfBeq za;exact lB 10 za (lNIF (cK (cSLlL hs [.o 13 (nv a) 2 0 2,.o 14 (nv b) 1 0 2] (lCval 15 hs (nDiv a b oM aM aM _ _ hs.g) (fun _ _ hs=>lL hs [.m 12 15,.v 16 (nv (a/b)),.v 17 (nv (a%b)),.v 18 qT] (lA 5 36 ([uV 0,eS]) hs (fun b15 _ _ hs=>lA 6 36 ([uV 0,eS]) hs (fun b18 _ _ hs=>lP 1 0 (nc (a/b)) hs (fun _ hs=>lP 0 0 (nc (a%b)) hs (fun _ hs=>lL hs [.m 7 18] (lNS (lL hs [.o 19 (nv (a/b)) 1 0 2] (lP 2 0 (nc (a/b)) hs (fun _ hs=>lNkXr hs [(2,0,2)] (nv (a/b)) rfl))))))))))))))
 have zb:=eq_of_beq za;exact lB 10 za (lNIT (cSLlL hs [.o 11 (nv a) 2 0 2] (lP 0 0 (nc a) hs (fun _ hs=>lNkXr hs [(0,0,2)] (nv a) (by rw[show b=1 by omega,Nat.div_one])))))
theorem fPart (z:Int)(b:Nat)(hb:0<b)(hd:(b:Int)∣z)(hla:(wds (iabs z)).length≤1000000000)(hlb:(wds b).length≤1000000000)(w:World)(h:Hp)(g:G w h):CV 111 #[iv z,nv b] w h (iv (z/b)):=by
 have hs:=sS g;have hdl:(wds (iabs z/b)).length≤1000000000:=wds_len_le (Nat.div_le_self _ _) hla;refine go Tryz.func111 [(0,iv z),(1,nv b)] rfl (cSL (lA 2 38 (ic z) hs (fun b1 w2 h3 hs=>lA 3 36 (nc b) hs (fun b4 w5 h6 hs=>lA 4 38 ([qF,uV 0,eS]) hs (fun b7 w8 h9 hs=>lNcQ (cR 8 [] mixed hs al_nil ?_))))));exact eO 0 5 [(2,0,3)] (iv z) hs (eO 3 8 [(2,0,3)] (iv z) hs (eO 5 10 [(1,0,2)] (nv b) hs (eCval 1 6 hs (fun _ _ hs=>wSign z aOM _ _ hs.g) (fun _ _ hs=>eV 2 7 (.bool (decide (((z).sign:Int)<(0:Int)))) (eCval 4 9 hs (fun _ _ hs=>wAbs z _ _ hs.g) (fun _ _ hs=>eCval 6 11 hs (fun _ _ hs=>fOver (iabs z) b aM aOM aOM _ _ hs.g) (fun _ _ hs=>eCval 7 12 hs (fun _ _ hs=>wFrom (decide (((z).sign:Int)<(0:Int))) ((iabs z)/b) aOM _ _ hs.g) (fun _ _ hs=>eD0 hs (fun _ _ hs=>tP 8 0 0 (ic (sgn (decide (((z).sign:Int)<(0:Int))) ((iabs z)/b))) hs (fun _ hs=>tN (kX (hs.ret [(0,0,3)] (iv (sgn (decide (((z).sign:Int)<(0:Int))) ((iabs z)/b))) (congrArg iv (sgn_part z b hd))))))))))))))
theorem fTimes (z:Int)(d:Nat)(hl:(wds (iabs z)).length+(wds d).length≤1000000000)(w:World)(h:Hp)(g:G w h):CV 68 #[iv z,nv d] w h (iv (z*d)):=by
 have hs:=sS g;refine go Tryz.func68 [(0,iv z),(1,nv d)] rfl (cSL (lA 2 38 (ic z) hs (fun b1 w2 h3 hs=>lA 3 36 (nc d) hs (fun b4 w5 h6 hs=>lA 4 38 ([qF,uV 0,eS]) hs (fun b7 w8 h9 hs=>lNcQ (cR 4 [] mixed hs al_nil ?_))))));exact eO 0 5 [(2,0,3)] (iv z) hs (eO 1 6 [(1,0,2)] (nv d) hs (eCval 2 7 hs (fun _ _ hs=>wFromN d _ _ hs.g) (fun _ _ hs=>eCval 3 8 hs (fun _ _ hs=>wMul z (d:Int) aOM _ _ hs.g) (fun _ _ hs=>eD0 hs (fun _ _ hs=>tP 4 0 0 (ic (z*(d:Int))) hs (fun _ hs=>tN (kX (hs.ret [(0,0,3)] (iv (z*(d:Int))) rfl))))))))
theorem fIsWhole (a:Rat)(ha:LQ 100000000 a)(w:World)(h:Hp)(g:G w h):CV 66 #[qv a] w h (.bool (decide (a.den=1))):=by
 have hs:=sS g;have hqd:=ha.qd;exact go Tryz.func66 [(0,qv a)] rfl (cSL (lA 1 40 (qc a) hs (fun b1 w2 h3 hs=>lL hs [.v 2 qF] (lNS (lL hs [.v 3 (qP b1 3),.o 4 (nv (qd a)) 0 3 2] (lCval 5 hs (nBits (qd a) aOM _ _ hs.g) (fun w4 h5 hs=>lL hs [.v 6 (.bool (((nb (qd a):Nat):Int) == (0:Int))),.m 2 6] (lNkXr hs [] (.bool (((nb (qd a):Nat):Int) == (0:Int))) (congrArg Value.bool (isw a))))))))))
theorem fDen (a:Rat)(ha:LQ 100000000 a)(w:World)(h:Hp)(g:G w h):CV 69 #[qv a] w h (nv a.den):=by
 have hs:=sS g;refine go Tryz.func69 [(0,qv a)] rfl (cSL (lA 1 40 (qc a) hs (fun b1 w2 h3 hs=>lA 2 36 ([uV 0,eS]) hs (fun b4 w5 h6 hs=>lNcQ (cSLlL hs [.o 3 (qv a) 1 0 5] (lCval 4 hs (fIsWhole a aM _ _ hs.g) (fun w7 h8 hs=>?_)))))));cases hb9:(decide (a.den=1))
 ·
  have phb9:=oF hb9;exact lNIF (cK (cSLlL hs [.v 6 (qP b1 3),.o 7 (nv (qd a)) 1 3 2] (lP 0 0 (nc (qd a)) hs (fun _ hs=>lNkXr hs [(0,0,2)] (nv (qd a)) (by rw[qd_ne (by simpa using (by assumption:decide (a.den=1)=false))])))))
 have phb9:=oT hb9;exact lNIT (cSL (lCval 5 hs (nOf 1 oM _ _ hs.g) (fun _ _ hs=>lP 0 0 (nc 1) hs (fun _ hs=>lNkXr hs [(0,0,2)] (nv 1) (by rw[show a.den=1 by simpa using (by assumption:decide (a.den=1)=true)])))))
theorem fSign (a:Rat)(ha:LQ 100000000 a)(w:World)(h:Hp)(g:G w h):CV 60 #[qv a] w h (iV a.num.sign):=by
 have hs:=sS g;obtain ⟨ha1,ha2⟩:=ha;exact go Tryz.func60 [(0,qv a)] rfl (cSL (lA 1 40 (qc a) hs (fun b1 w2 h3 hs=>lL hs [.v 2 (iV 0)] (lNS (lL hs [.v 3 (pB b1),.o 4 (iv a.num) 0 0 3] (lCval 5 hs (wSign a.num aOM _ _ hs.g) (fun w4 h5 hs=>lL hs [.m 2 5] (lNkXr hs [] (iV ((a.num).sign)) rfl))))))))
theorem fOf (z:Int)(h0 : -9223372036854775808≤z)(h1:z≤9223372036854775807)(w:World)(h:Hp)(g:G w h):CV 136 #[iV z] w h (qv (z:Rat)):=by
 have hs:=sS g;exact go Tryz.func136 [(0,iV z)] rfl (cSL (lA 2 40 ([qF,uV 0,eS,uV 0,eS]) hs (fun b1 w2 h3 hs=>lNS (lL hs [.m 3 0] (lCval 4 hs (wOf z oM oM _ _ hs.g) (fun w4 h5 hs=>lL hs [.v 5 (.agg #[.bool (ineg z),uV (lo (iabs z)),.string (hi (iabs z)),uV 0,eS])] (lP 0 0 ([.bool (ineg z),uV (lo (iabs z)),.string (hi (iabs z)),uV 0,eS]) hs (fun w6 hs=>lNkXr hs [(0,0,5)] (.agg #[.bool (ineg z),uV (lo (iabs z)),.string (hi (iabs z)),uV 0,eS]) (qv_lit (d:=0) (Rat.num_intCast z) (qd_one (Rat.den_intCast z)))))))))))
theorem fLowest (z:Int)(d:Nat)(hd:0<d)(hla:(wds (iabs z)).length≤1000000000)(hlb:(wds d).length≤1000000000)(w:World)(h:Hp)(g:G w h)(tb:Tab h):CV 75 #[iv z,nv d] w h (qv (mkRat z d)):=by
 have hs:=((sS g).aB tb);obtain ⟨hm1,hm2,hm3,hm4⟩:=mkRat_parts z d hd;obtain ⟨q,hq⟩:∃ q,q=Nat.gcd (iabs z) d:=⟨_,rfl⟩;rw[←hq] at hm1 hm2 hm3 hm4
 have hql:(wds q).length≤1000000000:=wds_len_le (by rw[hq];exact Nat.gcd_le_right _ hd) hlb;have hLQ:LQ 1000000000 (mkRat z d):=⟨by rw[hm1];exact wds_len_le (iabs_div_le z q hm3) hla,by rw[hm2];exact wds_len_le (Nat.div_le_self _ _) hlb⟩;refine go Tryz.func75 [(0,iv z),(1,nv d)] rfl (cSL (lA 2 38 (ic z) hs (fun b1 w2 h3 hs=>lA 3 36 (nc d) hs (fun b4 w5 h6 hs=>lA 4 40 ([qF,uV 0,eS,uV 0,eS]) hs (fun b7 w8 h9 hs=>lNcQ ?_)))));have hsr:=hs;refine cR 5 [⟨4,5,.cells (List.toArray [uV 0,eS]) 36 (0,0)⟩] mixed hs (al_cons (alOk kR (fun _ _=>by kernel_rfl)) al_nil) (eO 0 6 [(2,0,3)] (iv z) hs (eO 1 7 [(1,0,2)] (nv d) hs (eCval 2 8 hs (fun _ _ hs=>wFromN d _ _ hs.g) (fun _ _ hs=>eCval 3 9 hs (fun _ _ hs=>wGcdE z (d:Int) q (by first|assumption|exact hq) aOM (show (wds d).length≤1000000000 by first|assumption|omega) _ _ hs.g hs.f.1) (fun _ _ hs=>eD1p [] hsr hs 36 [uV 0,eS] (fun _ _ b16 hs=>tP 5 0 0 (nc q) hs (fun _ hs=>tN (cQ (cR 7 [] mixed hs al_nil ?_)))))))));exact eO 0 10 [(3,0,3)] (iv z) hs (eO 1 11 [(0,0,2)] (nv q) hs (eO 3 13 [(2,0,2)] (nv d) hs (eO 4 14 [(0,0,2)] (nv q) hs (eCval 2 12 hs (fun _ _ hs=>fPart z q aM aM aOM aOM _ _ hs.g) (fun _ _ hs=>eCval 5 15 hs (fun _ _ hs=>fOver d q aM aOM aOM _ _ hs.g) (fun _ _ hs=>eCval 6 16 hs (fun _ _ hs=>fPackE (mkRat z d) (z/(q:Int)) (d/q) (by first|assumption|exact hm1|exact (hm1).symm) (by first|assumption|exact hm2.symm) aM _ _ hs.g) (fun _ _ hs=>eD0 hs (fun _ _ hs=>tP 7 1 0 (qc (mkRat z d)) hs (fun _ hs=>tN (kX (hs.ret [(1,0,5)] (qv (mkRat z d)) rfl)))))))))))
theorem fIsWholeT (a:Rat)(ha:LQ 100000000 a)(h1:a.den=1)(w:World)(h:Hp)(g:G w h):CV 66 #[qv a] w h (.bool true):=by
  have:=fIsWhole a ha w h g;rwa [decide_eq_true h1] at this
theorem fIsWholeF (a:Rat)(ha:LQ 100000000 a)(h1:a.den≠1)(w:World)(h:Hp)(g:G w h):CV 66 #[qv a] w h (.bool false):=by
  have:=fIsWhole a ha w h g;rwa [decide_eq_false h1] at this
theorem len_imul2 (x y:Int):(wds (iabs (x*y))).length≤(wds (iabs x)).length+(wds (iabs y)).length:=by
  have:iabs (x*y)=iabs x*iabs y:=Int.natAbs_mul x y;rw[this];exact wds_len_mul
theorem len_imul (x:Int)(d:Nat):(wds (iabs (x*((d:Nat):Int)))).length≤(wds (iabs x)).length+(wds d).length:=len_imul2 x (d:Int)
theorem LQ.mono {k l:Nat}{a:Rat}(h:LQ k a)(hkl:k≤l):LQ l a:=⟨Nat.le_trans h.1 hkl,Nat.le_trans h.2 hkl⟩
def cmpR (a b:Rat):Int:=cmpI (a.num*b.den) (b.num*a.den)
theorem cmpR_whole {a b:Rat}(h1:a.den=1)(h2:b.den=1):cmpI a.num b.num=cmpR a b:=by unfold cmpR;rw[h1,h2];simp
theorem cmpR_sign {a b:Rat}(h:(a.num.sign != b.num.sign)=true):cmpI a.num b.num=cmpR a b:=by
  have h:a.num.sign≠b.num.sign:=by simpa using h
  have ha:=a.den_pos;have hb:=b.den_pos
  unfold cmpR cmpI
  rcases Int.lt_trichotomy a.num 0 with p|p|p<;>rcases Int.lt_trichotomy b.num 0 with q|q|q
  · exact absurd (by rw[Int.sign_eq_neg_one_of_neg p,Int.sign_eq_neg_one_of_neg q]) h
  · have:a.num*(b.den:Int)<0:=Int.mul_neg_of_neg_of_pos p oM
    rw[q];simp;rw[if_pos p,if_pos this]
  · have t1:a.num*(b.den:Int)<0:=Int.mul_neg_of_neg_of_pos p oM
    have t2:0<b.num*(a.den:Int):=Int.mul_pos q oM;rw[if_pos oM,if_pos oM]
  · have:b.num*(a.den:Int)<0:=Int.mul_neg_of_neg_of_pos q oM
    rw[p];simp;rw[if_neg oM,if_pos q,if_neg oM,if_pos this]
  · exact absurd (by rw[p,q]) h
  · have:0<b.num*(a.den:Int):=Int.mul_pos q oM
    rw[p];simp;rw[if_pos q,if_pos this]
  · have t1:0<a.num*(b.den:Int):=Int.mul_pos p oM
    have t2:b.num*(a.den:Int)<0:=Int.mul_neg_of_neg_of_pos q oM;rw[if_neg oM,if_pos oM,if_neg oM,if_pos oM]
  · have:0<a.num*(b.den:Int):=Int.mul_pos p oM
    rw[q];simp;rw[if_neg oM,if_pos p,if_neg oM,if_pos this]
  · exact absurd (by rw[Int.sign_eq_one_of_pos p,Int.sign_eq_one_of_pos q]) h
theorem fCmpWW (a b:Rat)(ha:LQ 100000000 a)(hb:LQ 100000000 b)(hwa:a.den=1)(hwb:b.den=1)(w:World)(h:Hp)(g:G w h):CV 35 #[qv a,qv b] w h (iV (cmpR a b)):=by
 have hs:=sS g;have ha_:=ha;have hb_:=hb;obtain ⟨ha1,ha2⟩:=ha_;obtain ⟨hb1,hb2⟩:=hb_;have hx1:=len_imul a.num b.den;have hx2:=len_imul b.num a.den;refine go Tryz.func35 [(0,qv a),(1,qv b)] rfl (cSL (lA 2 40 (qc a) hs (fun b1 w2 h3 hs=>lA 3 40 (qc b) hs (fun b4 w5 h6 hs=>lL hs [.v 4 (iV 0)] (lNcQ (cQ (cR 13 [] mixed hs al_nil ?_)))))));exact eO 0 5 [(1,0,5)] (qv a) hs (eCval 1 6 hs (fun _ _ hs=>fIsWholeT a aM aM _ _ hs.g) (fun w7 h8 hs=>eV 2 7 qT (eO 3 8 [(0,0,5)] (qv b) hs (eCval 4 9 hs (fun _ _ hs=>fIsWholeT b aM aM _ _ hs.g) (fun w9 _ hs=>eV 5 10 qT (eV 6 11 qT (eG 7 12 (eG 8 13 (eG 9 14 (eG 10 15 (eG 11 16 (eV 12 17 qT (eD0 hs (fun _ _ hs=>tN (cIT (cSLlL hs [.v 18 (pB b1),.o 19 (iv a.num) 1 0 3,.v 20 (pB b4),.o 21 (iv b.num) 0 0 3] (lCval 22 hs (wCmp a.num b.num aOM aOM _ _ hs.g) (fun _ _ hs=>lL hs [.m 4 22] (lNkXr hs [] (iV (cmpI a.num b.num)) (congrArg (Value.int .i64) (by first|rfl|exact cmpR_whole hwa hwb|exact cmpR_sign ‹_›)))))))))))))))))))))
theorem fCmpNN (a b:Rat)(ha:LQ 100000000 a)(hb:LQ 100000000 b)(hwa:a.den≠1)(w:World)(h:Hp)(g:G w h):CV 35 #[qv a,qv b] w h (iV (cmpR a b)):=by
 have hs:=sS g;have ha_:=ha;have hb_:=hb;obtain ⟨ha1,ha2⟩:=ha_;obtain ⟨hb1,hb2⟩:=hb_;have hx1:=len_imul a.num b.den;have hx2:=len_imul b.num a.den;refine go Tryz.func35 [(0,qv a),(1,qv b)] rfl (cSL (lA 2 40 (qc a) hs (fun b1 w2 h3 hs=>lA 3 40 (qc b) hs (fun b4 w5 h6 hs=>lL hs [.v 4 (iV 0)] (lNcQ (cQ (cR 13 [] mixed hs al_nil ?_)))))));refine eO 0 5 [(1,0,5)] (qv a) hs (eCval 1 6 hs (fun _ _ hs=>fIsWholeF a aM aM _ _ hs.g) (fun w7 h8 hs=>eV 2 7 qF (eG 3 8 (eG 4 9 (eV 5 10 qF (eV 6 11 qF (eO 7 12 [(1,0,5)] (qv a) hs (eO 9 14 [(0,0,5)] (qv b) hs (eCval 8 13 hs (fun _ _ hs=>fSign a aM _ _ hs.g) (fun w9 _ hs=>eCval 10 15 hs (fun _ _ hs=>fSign b aM _ _ hs.g) (fun _ _ hs=>?_)))))))))));cases za:(((a.num).sign:Int) != ((b.num).sign:Int))
 ·
  have zb:=eqOfBne za;refine eB 11 16 za (eV 12 17 qF (eD0 hs (fun _ _ hs=>tN (cIF (cK (cQ (cR 11 [] mixed hs al_nil ?_)))))));exact eV 0 23 (pB b1) (eO 1 24 [(1,0,3)] (iv a.num) hs (eO 2 25 [(0,0,5)] (qv b) hs (eV 5 28 (pB b4) (eO 6 29 [(0,0,3)] (iv b.num) hs (eO 7 30 [(1,0,5)] (qv a) hs (eCval 3 26 hs (fun _ _ hs=>fDen b aM _ _ hs.g) (fun _ _ hs=>eCval 4 27 hs (fun _ _ hs=>fTimes a.num b.den aOM _ _ hs.g) (fun _ _ hs=>eCval 8 31 hs (fun _ _ hs=>fDen a aM _ _ hs.g) (fun _ _ hs=>eCval 9 32 hs (fun _ _ hs=>fTimes b.num a.den aOM _ _ hs.g) (fun _ _ hs=>eCval 10 33 hs (fun _ _ hs=>wCmp (a.num*(b.den:Int)) (b.num*(a.den:Int)) aOM aOM _ _ hs.g) (fun _ _ hs=>eD0 hs (fun _ _ hs=>tV 11 4 (iV (cmpI (a.num*(b.den:Int)) (b.num*(a.den:Int)))) (tN (kX (hs.ret [] (iV (cmpI (a.num*(b.den:Int)) (b.num*(a.den:Int)))) (congrArg (Value.int .i64) (by first|rfl|exact cmpR_whole hwa hwb|exact cmpR_sign ‹_›)))))))))))))))))
 have zb:=neOfBne za;exact eB 11 16 za (eV 12 17 qT (eD0 hs (fun _ _ hs=>tN (cIT (cSLlL hs [.v 18 (pB b1),.o 19 (iv a.num) 1 0 3,.v 20 (pB b4),.o 21 (iv b.num) 0 0 3] (lCval 22 hs (wCmp a.num b.num aOM aOM _ _ hs.g) (fun _ _ hs=>lL hs [.m 4 22] (lNkXr hs [] (iV (cmpI a.num b.num)) (congrArg (Value.int .i64) (by first|rfl|exact cmpR_whole hwa hwb|exact cmpR_sign ‹_›))))))))))
theorem fCmpWN (a b:Rat)(ha:LQ 100000000 a)(hb:LQ 100000000 b)(hwa:a.den=1)(hwb:b.den≠1)(w:World)(h:Hp)(g:G w h):CV 35 #[qv a,qv b] w h (iV (cmpR a b)):=by
 have hs:=sS g;have ha_:=ha;have hb_:=hb;obtain ⟨ha1,ha2⟩:=ha_;obtain ⟨hb1,hb2⟩:=hb_;have hx1:=len_imul a.num b.den;have hx2:=len_imul b.num a.den;refine go Tryz.func35 [(0,qv a),(1,qv b)] rfl (cSL (lA 2 40 (qc a) hs (fun b1 w2 h3 hs=>lA 3 40 (qc b) hs (fun b4 w5 h6 hs=>lL hs [.v 4 (iV 0)] (lNcQ (cQ (cR 13 [] mixed hs al_nil ?_)))))));refine eO 0 5 [(1,0,5)] (qv a) hs (eCval 1 6 hs (fun _ _ hs=>fIsWholeT a aM aM _ _ hs.g) (fun w7 h8 hs=>eV 2 7 qT (eO 3 8 [(0,0,5)] (qv b) hs (eCval 4 9 hs (fun _ _ hs=>fIsWholeF b aM aM _ _ hs.g) (fun w9 _ hs=>eV 5 10 qF (eV 6 11 qF (eO 7 12 [(1,0,5)] (qv a) hs (eO 9 14 [(0,0,5)] (qv b) hs (eCval 8 13 hs (fun _ _ hs=>fSign a aM _ _ hs.g) (fun _ _ hs=>eCval 10 15 hs (fun _ _ hs=>fSign b aM _ _ hs.g) (fun _ _ hs=>?_)))))))))));cases za:(((a.num).sign:Int) != ((b.num).sign:Int))
 ·
  have zb:=eqOfBne za;refine eB 11 16 za (eV 12 17 qF (eD0 hs (fun _ _ hs=>tN (cIF (cK (cQ (cR 11 [] mixed hs al_nil ?_)))))));exact eV 0 23 (pB b1) (eO 1 24 [(1,0,3)] (iv a.num) hs (eO 2 25 [(0,0,5)] (qv b) hs (eV 5 28 (pB b4) (eO 6 29 [(0,0,3)] (iv b.num) hs (eO 7 30 [(1,0,5)] (qv a) hs (eCval 3 26 hs (fun _ _ hs=>fDen b aM _ _ hs.g) (fun _ _ hs=>eCval 4 27 hs (fun _ _ hs=>fTimes a.num b.den aOM _ _ hs.g) (fun _ _ hs=>eCval 8 31 hs (fun _ _ hs=>fDen a aM _ _ hs.g) (fun _ _ hs=>eCval 9 32 hs (fun _ _ hs=>fTimes b.num a.den aOM _ _ hs.g) (fun _ _ hs=>eCval 10 33 hs (fun _ _ hs=>wCmp (a.num*(b.den:Int)) (b.num*(a.den:Int)) aOM aOM _ _ hs.g) (fun _ _ hs=>eD0 hs (fun _ _ hs=>tV 11 4 (iV (cmpI (a.num*(b.den:Int)) (b.num*(a.den:Int)))) (tN (kX (hs.ret [] (iV (cmpI (a.num*(b.den:Int)) (b.num*(a.den:Int)))) (congrArg (Value.int .i64) (by first|rfl|exact cmpR_whole hwa hwb|exact cmpR_sign ‹_›)))))))))))))))))
 have zb:=neOfBne za;exact eB 11 16 za (eV 12 17 qT (eD0 hs (fun _ _ hs=>tN (cIT (cSLlL hs [.v 18 (pB b1),.o 19 (iv a.num) 1 0 3,.v 20 (pB b4),.o 21 (iv b.num) 0 0 3] (lCval 22 hs (wCmp a.num b.num aOM aOM _ _ hs.g) (fun _ _ hs=>lL hs [.m 4 22] (lNkXr hs [] (iV (cmpI a.num b.num)) (congrArg (Value.int .i64) (by first|rfl|exact cmpR_whole hwa hwb|exact cmpR_sign ‹_›))))))))))
theorem fCmp (a b:Rat)(ha:LQ 100000000 a)(hb:LQ 100000000 b)(w:World)(h:Hp)(g:G w h):CV 35 #[qv a,qv b] w h (iV (cmpR a b)):=by
  by_cases h1:a.den=1
  · by_cases h2:b.den=1
    · exact fCmpWW a b ha hb h1 h2 w h g
    · exact fCmpWN a b ha hb h1 h2 w h g
  · exact fCmpNN a b ha hb h1 w h g
def mkR (n d:Int):Rat:=mkRat (if d<0 then -n else n) (iabs d)
theorem fMakeN (n d:Int)(hd:d<0)(hla:(wds (iabs n)).length≤1000000000)(hlb:(wds (iabs d)).length≤1000000000)(w:World)(h:Hp)(g:G w h)(tb:Tab h):CV 45 #[iv n,iv d] w h (.tuple #[qv (mkR n d),.bool true]):=by
 have hs:=((sS g).aB tb);have hds:=Int.sign_eq_neg_one_of_neg hd;have hd0:0<iabs d:=by unfold iabs;omega
 have hln:(wds (iabs (-n))).length≤1000000000:=by unfold iabs;rw[Int.natAbs_neg];exact hla
 refine go Tryz.func45 [(0,iv n),(1,iv d)] rfl (cSL (lA 2 38 (ic n) hs (fun b1 w2 h3 hs=>lA 3 38 (ic d) hs (fun b4 w5 h6 hs=>lA 4 40 ([qF,uV 0,eS,uV 0,eS]) hs (fun b7 w8 h9 hs=>lL hs [.v 5 qF] (lNcQ (cSLlL hs [.o 6 (iv d) 1 0 3] (lCval 7 hs (wSign d aOM _ _ hs.g) (fun _ _ hs=>?_)))))))));have za:(((d).sign:Int) == (0:Int))=false:=beqF oM;have phb12:=neOfBeq za;refine lB 8 za (lNIF (cK (cQ (cSLlL hs [.o 10 (iv d) 1 0 3] (lCval 11 hs (wSign d aOM _ _ hs.g) (fun _ _ hs=>?_))))));have ⟨zb,phb15⟩:=dT (p:=((d).sign:Int)<(0:Int)) oM;refine lB 12 zb (lNIT (kQ (lL hs [.o 13 (iv n) 2 0 3] (lCval 14 hs (wNeg n aOM _ _ hs.g) (fun _ _ hs=>lP 2 0 (ic (-n)) hs (fun _ hs=>lNcQ (cR 4 [] mixed hs al_nil ?_)))))));exact eO 0 15 [(2,0,3)] (iv (-n)) hs (eO 1 16 [(1,0,3)] (iv d) hs (eCval 2 17 hs (fun _ _ hs=>wAbs d _ _ hs.g) (fun _ _ hs=>eCval 3 18 hs (fun _ _ hs=>fLowest (-n) (iabs d) aOM aOM aOM _ _ hs.g hs.f.1) (fun _ _ hs=>eD0 hs (fun _ _ hs=>tP 4 0 0 (qc (mkRat (-n) (iabs d))) hs (fun _ hs=>tV 5 5 qT (tN (kX (hs.ret [(0,0,5)] (.tuple #[qv (mkRat (-n) (iabs d)),qT]) (by unfold mkR;rw[if_pos hd]))))))))))
theorem fMakeP (n d:Int)(hd:0<d)(hla:(wds (iabs n)).length≤1000000000)(hlb:(wds (iabs d)).length≤1000000000)(w:World)(h:Hp)(g:G w h)(tb:Tab h):CV 45 #[iv n,iv d] w h (.tuple #[qv (mkR n d),.bool true]):=by
 have hs:=((sS g).aB tb);have hds:=Int.sign_eq_one_of_pos hd;have hd0:0<iabs d:=by unfold iabs;omega
 refine go Tryz.func45 [(0,iv n),(1,iv d)] rfl (cSL (lA 2 38 (ic n) hs (fun b1 w2 h3 hs=>lA 3 38 (ic d) hs (fun b4 w5 h6 hs=>lA 4 40 ([qF,uV 0,eS,uV 0,eS]) hs (fun b7 w8 h9 hs=>lL hs [.v 5 qF] (lNcQ (cSLlL hs [.o 6 (iv d) 1 0 3] (lCval 7 hs (wSign d aOM _ _ hs.g) (fun _ _ hs=>?_)))))))));have za:(((d).sign:Int) == (0:Int))=false:=beqF oM;have phb12:=neOfBeq za;refine lB 8 za (lNIF (cK (cQ (cSLlL hs [.o 10 (iv d) 1 0 3] (lCval 11 hs (wSign d aOM _ _ hs.g) (fun _ _ hs=>?_))))));have ⟨zb,phb15⟩:=dF (p:=((d).sign:Int)<(0:Int)) oM;refine lB 12 zb (lNIF (cK (cQ (cR 4 [] mixed hs al_nil ?_))));exact eO 0 15 [(2,0,3)] (iv n) hs (eO 1 16 [(1,0,3)] (iv d) hs (eCval 2 17 hs (fun _ _ hs=>wAbs d _ _ hs.g) (fun _ _ hs=>eCval 3 18 hs (fun _ _ hs=>fLowest n (iabs d) aOM aOM aOM _ _ hs.g hs.f.1) (fun _ _ hs=>eD0 hs (fun _ _ hs=>tP 4 0 0 (qc (mkRat n (iabs d))) hs (fun _ hs=>tV 5 5 qT (tN (kX (hs.ret [(0,0,5)] (.tuple #[qv (mkRat n (iabs d)),qT]) (by unfold mkR;rw[if_neg oM]))))))))))
theorem fMake (n d:Int)(hd:d≠0)(hla:(wds (iabs n)).length≤1000000000)(hlb:(wds (iabs d)).length≤1000000000)(w:World)(h:Hp)(g:G w h)(tb:Tab h):CV 45 #[iv n,iv d] w h (.tuple #[qv (mkR n d),.bool true]):=by
  rcases Int.lt_trichotomy d 0 with h1|h1|h1
  · exact fMakeN n d h1 hla hlb w h g tb
  · exact absurd h1 hd
  · exact fMakeP n d h1 hla hlb w h g tb
theorem mkR_parts (n d:Int)(hd:d≠0):(mkR n d).num=sgn (ineg n != ineg d) (iabs n/Nat.gcd (iabs n) (iabs d))∧(mkR n d).den=iabs d/Nat.gcd (iabs n) (iabs d)∧0<Nat.gcd (iabs n) (iabs d):=by
  have hd0:0<iabs d:=by unfold iabs;omega
  have hz:iabs (if d<0 then -n else n)=iabs n:=by unfold iabs;split<;>omega
  obtain ⟨h1,h2,h3,h4⟩:=mkRat_parts (if d<0 then -n else n) (iabs d) hd0;rw[hz] at h1 h2 h3 h4
  refine ⟨?_,h2,h4⟩;have hs:=sgn_part _ _ h3;rw[hz] at hs
  show (mkRat _ _).num=_
  rw[h1,←hs]
  by_cases hn:n=0
  · have hk:iabs n/Nat.gcd (iabs n) (iabs d)=0:=by rw[hn];exact Nat.zero_div _
    rw[hk]
    unfold sgn
    simp
  · have e:decide ((if d<0 then -n else n).sign<0)=(ineg n != ineg d):=by
      unfold ineg
      rcases Int.lt_trichotomy n 0 with a|a|a
      · rcases Int.lt_trichotomy d 0 with b|b|b
        · rw[if_pos b,Int.sign_eq_one_of_pos oM];simp[a,b]
        · exact absurd b hd
        · rw[if_neg oM,Int.sign_eq_neg_one_of_neg a];simp[a,show ¬d<0 by omega]
      · exact absurd a hn
      · rcases Int.lt_trichotomy d 0 with b|b|b
        · rw[if_pos b,Int.sign_eq_neg_one_of_neg oM];simp[show ¬n<0 by omega,b]
        · exact absurd b hd
        · rw[if_neg oM,Int.sign_eq_one_of_pos a];simp[show ¬n<0 by omega,show ¬d<0 by omega]
    rw[e]
theorem lim_small {z:Int}(h0 : -9223372036854775808≤z)(h1:z<9223372036854775808):(lim (iabs z)).length≤2:=lim_len_le (by unfold iabs;omega)
theorem rOf (z:Int)(h0 : -9223372036854775808≤z)(h1:z<9223372036854775808)(w:World)(h:Hp)(g:G w h):CR 18 #[iV z] w h (fun v h1=>RQ h1 v (z:Rat)):=by
 have hs:=sS g;refine go Tryz.func18 [(0,iV z)] rfl (cSL (lA 2 28 ([qF,sZ,sZ]) hs (fun b1 w2 h3 hs=>lNS (lL hs [.m 3 0] (lC 4 hs (rIntOf z oM oM _ _ hs.g) ?_)))));rintro _ w8 h9 hs ⟨A4,c5,rfl,hc6,hA7⟩;replace hs:=hs.aS hA7;refine lC 5 hs (rNatOf 1 oM _ _ hs.g) ?_;rintro _ _ _ hs ⟨za,zb,rfl,zc,zd⟩;replace hs:=hs.aS zd;exact lL hs [.v 6 (.agg #[.bool (ineg z),qS A4 ((lim (iabs z)).length) c5,qS za ((lim 1).length) zb])] (lP 0 0 ([.bool (ineg z),qS A4 ((lim (iabs z)).length) c5,qS za ((lim 1).length) zb]) hs (fun _ hs=>lNkXr hs [(0,0,3)] (.agg #[.bool (ineg z),qS A4 ((lim (iabs z)).length) c5,qS za ((lim 1).length) zb]) (by unfold RQ;rw[Rat.num_intCast,Rat.den_intCast];exact ⟨_,_,_,_,rfl,hc6,zc,hs.f.2.1,hs.f.1⟩)))
theorem opShrU {P:Program}{Γ:Env}{o:Oper}{t u:TypeId}{x y:Operand}{k ky:IntKind}{a n:Nat}(ho:o.op=.binOp .shr t x y u)(hx:ev Γ x=.int k (a:Int))(hy:ev Γ y=.int ky (n:Int))(hn:n≤k.bits)(w:World) :
    (execOp (ev Γ) o).run P w=.ok (.value (.int k ((a/2^n:Nat):Int))) w:=by
  have:=opShr (P:=P) ho hx hy hn w;rw[show ((a:Int)/2^n)=((a/2^n:Nat):Int) by simp] at this
  exact this
theorem rNatBytes (a:Nat)(A:Option Addr)(c:Nat)(hc:(lim a).length≤c)(hLa:(lim a).length≤4000000000)(w:World)(h:Hp)(g:G w h)(hA:S3 A (lim a) h):CR 79 #[.slice A ((lim a).length) c] w h (fun v h1=>∃ A,v=.slice A ((nb a+7)/8) ((nb a+7)/8)∧SlO 1 u8c 0 h1 A (byt a ((nb a+7)/8))):=by
 have hs:=((sS g).aS hA);have hna:=nb_len a;refine go Tryz.func79 [(0,qS A ((lim a).length) c)] rfl (cSLlL hs [.v 2 (sZ)] (lNS (lL hs [.m 6 0] (lCval 7 hs (rNatBits a A c hc hLa _ _ hs.g hs.f.1) (fun w1 h2 hs=>lIn 8 ((nb a:Nat)+7) ((nb a)+7) (lV 9 (nV (((nb a)+7)/8)) ?_ (hr:=rint (opQuo (t:=3) (u:=3) (x:=.tmp 8) (y:=.const (iV 8)) (k:=.i64) (a:=(((nb a)+7:Nat):Int)) (b:=(8:Int)) kR kR kR oM _) (quoI64 ((nb a)+7) 8 oM))))))));refine lL hs [.m 3 9] (lNS (lL hs [.m 10 3] (lK 11 5 (((nb a)+7)/8:Nat) 1 1 (.int .u8 0) u8c 0 hs (fun b3 w4 h5 hs=>?_))));have hl6:(List.replicate (((nb a)+7)/8:Nat) 0).length=(((nb a)+7)/8:Nat):=by simp
 refine lL hs [.m 4 11] (lNcQ (cSLlL hs [.v 5 (iV 0)] (lNkZ ?_)));refine cTo _ (CG.loop (fun μ_ Γ w_=>∃ (i:Nat) (l:List Nat) (h_:Hp),μ_=((nb a+7)/8)-i∧Γ=[(0,qS A ((lim a).length) c),(2,sZ),(3,nV (((nb a)+7)/8)),(4,qS (sB b3) (((nb a)+7)/8:Nat) (((nb a)+7)/8:Nat)),(5,nV i)]∧SS w h w_ h_ [⟨b3,5,(l).flatMap u8c⟩] [] [S3 A (lim a)]∧i≤((nb a+7)/8)∧l.length=((nb a+7)/8)∧(∀ j,j<i→l.getD (((nb a+7)/8)-1-j) 0=a/256^j%256)) _ ⟨0,List.replicate (((nb a)+7)/8:Nat) 0,h5,rfl,rfl,hs.to _ _,Nat.zero_le _,hl6,(fun j hj=>absurd hj oM)⟩ ?_);rintro _ _ w7 ⟨i,l,h8,hm9,rfl,hs,hi,hll,hg⟩;have hai:=(Ld.lim a).get (i/4);refine cQ (cSLlL hs [.m 12 5,.m 13 3] ?_);cases za:(decide ((i:Int)<((((nb a)+7)/8:Nat):Int)))
 ·
  have zb:=oF za;refine lB 14 za (lNIF (CG.exit ?_))
  show CG _ _ _ _ _ _ _ _
  refine cSLlL hs [.m 34 4,.m 2 34] (lN (kX ?_));have him:i=((nb a+7)/8):=by omega
  have hlb:l=byt a ((nb a+7)/8):=eq_byt hll (fun j hj=>hg j oM);rw[hlb] at hs
  obtain ⟨_,hs,sg12,lo13,bc14⟩:=hs.pub 0;replace hs:=(hs.to [] []).aS (SlO.of_flat (sz:=1) (f:=u8c) (d:=0) (b:=b3) (o:=0) (l:=byt a ((nb a+7)/8)) (fun _=>rfl) sg12);exact hs.ret [] (qS (sB b3) (((nb a)+7)/8:Nat) (((nb a)+7)/8:Nat)) (⟨sB b3,rfl,hs.f.1⟩)
 have zb:=oT za;refine lB 14 za (lNIT (cK (cQ (kZ (kQ (lL hs [.m 17 4,.m 18 3] (lIn 19 ((((nb a)+7)/8:Nat)-1) ((((nb a)+7)/8:Nat)-1) ?_)))))));refine lL hs [.m 20 5] (lIn 21 (((((nb a)+7)/8:Nat)-1:Nat)-(i:Nat)) (((((nb a)+7)/8:Nat)-1:Nat)-i) ?_);refine lL hs [.m 22 0,.m 23 5] (lV 24 (nV (i/4)) ?_ (hr:=rint (opQuo (t:=3) (u:=3) (x:=.tmp 23) (y:=.const (iV 4)) (k:=.i64) (a:=(i:Int)) (b:=(4:Int)) kR kR kR oM _) (quoI64 i 4 oM)));refine lX 25 A ((lim a).length) c 1 (i/4:Nat) (i/4) ((hs.f.1).ok oM) (lH 26 (mW ((lim a).getD (i/4) 0)) hs ((hs.f.1).el (i/4) oM) (lL hs [.m 27 5] (lV 28 (nV (i%4)) ?_ (hr:=rint (opRem (t:=3) (u:=3) (x:=.tmp 27) (y:=.const (iV 4)) (k:=.i64) (a:=(i:Int)) (b:=(4:Int)) kR kR kR oM _) (tmodNat i 4)))));refine lIn 29 (8*(i%4:Nat)) (8*(i%4)) (lV 30 (mV (8*(i%4))) ?_ (hr:=rU (((8*(i%4):Nat):Int)) kR (fitU64 oM oM)));refine lV 31 (mW ((lim a).getD (i/4) 0/2^(8*(i%4)))) ?_ (hr:=opShrU (t:=125) (u:=126) (x:=.tmp 26) (y:=.tmp 30) (k:=.u32) (ky:=.u64) (a:=(lim a).getD (i/4) 0) (n:=8*(i%4)) kR kR kR (show 8*(i%4)≤32 by omega) _);refine lV 32 (.int .u8 ((lim a).getD (i/4) 0/2^(8*(i%4))%256:Nat)) ?_ (hr:=rint (n:=IntKind.wrap .u8 (((lim a).getD (i/4) 0/2^(8*(i%4)):Nat):Int)) kR (wrU8 _));refine lX 33 (sB b3) (((nb a)+7)/8:Nat) (((nb a)+7)/8:Nat) 1 (((((nb a)+7)/8:Nat)-1:Nat)-i:Nat) (((((nb a)+7)/8:Nat)-1:Nat)-i:Nat) rfl (lW 0 l u8c 1 (((((nb a)+7)/8:Nat)-1:Nat)-i:Nat) ((lim a).getD (i/4) 0/2^(8*(i%4))%256:Nat) hs oM (fun _ hs=>?_));have zc:((l).set (((((nb a)+7)/8:Nat)-1:Nat)-i:Nat) ((lim a).getD (i/4) 0/2^(8*(i%4))%256:Nat)).length=(((nb a)+7)/8:Nat):=by rw[List.length_set];exact hll
 replace hs:=hs.to [⟨b3,5,((l).set (((((nb a)+7)/8:Nat)-1:Nat)-i:Nat) ((lim a).getD (i/4) 0/2^(8*(i%4))%256:Nat)).flatMap u8c⟩] [];refine lN (kQ (lL hs [.m 15 5] (lIn 16 ((i:Nat)+1) (i+1) ?_)));refine lL hs [.m 5 16] (lD ?_);intro a_ ka;refine ⟨_,_,?_,⟨i+1,(l).set (((((nb a)+7)/8:Nat)-1:Nat)-i:Nat) ((lim a).getD (i/4) 0/2^(8*(i%4))%256:Nat),h8,rfl,rfl,hs.to _ _,oM,zc,(set_from_top hll oM hg (byte_lim a i))⟩,ka.to _ kR⟩
 omega
def qabs (q:Rat):Rat:=if q.num<0 then -q else q
theorem LQ.ln {q:Rat}(h:LQ 100000000 q):(lim (iabs q.num)).length≤300000000:=Nat.le_trans (lim_wds _) (by have:=h.1;omega)
theorem LQ.ld {q:Rat}(h:LQ 100000000 q):(lim q.den).length≤300000000:=Nat.le_trans (lim_wds _) (by have:=h.2;omega)
theorem nl {k:Nat}{q:Rat}(h:LQ k q)(hk:k≤100000000:=by omega):(lim (iabs q.num)).length≤300000000:=LQ.ln (h.mono hk)
theorem nD {k:Nat}{q:Rat}(h:LQ k q)(hk:k≤100000000:=by omega):(lim q.den).length≤300000000:=LQ.ld (h.mono hk)
theorem LQ.int {z:Int}(h0 : -9223372036854775808≤z)(h1:z≤9223372036854775807):LQ 1 (z:Rat):=⟨by rw[Rat.num_intCast];exact wds_len_lit.2 (by unfold iabs;omega),by rw[Rat.den_intCast];exact wds_len_lit.2 oM⟩
theorem LQ.lit {z:Int}(h : -9223372036854775808≤z∧z≤9223372036854775807):LQ 1 (z:Rat):=LQ.int h.1 h.2
def dotq (a b:List Rat):Nat→Rat
  | 0=>0
  | k+1=>dotq a b k+a.getD k 0*b.getD k 0
theorem rNatDivS (a:Nat)(A:Option Addr)(c:Nat)(hc:(lim a).length≤c)(b:Nat)(D:Option Addr)(d:Nat)(hd:(lim b).length≤d)(hLa:(lim a).length≤3000000000)(hLb:(lim b).length≤1)(hb:0<b)(w:World)(h:Hp)(g:G w h)(hA:S3 A (lim a) h)(hD:S3 D (lim b) h):CR 145 #[.slice A (lim a).length c,.slice D (lim b).length d] w h (fun v h1=>∃ v1 v2,v=.tuple #[v1,v2]∧RN h1 v1 (a/b)∧RN h1 v2 (a%b)):=by
  have hp:=lim_pos.2 hb
  rcases Nat.lt_or_ge a b with h1|h1
  · exact rNatDivLt a A c hc b D d hd hLa oM h1 w h g hA hD
  · exact rNatDivOne a A c hc b D d hd hLa oM h1 oM w h g hA hD
theorem rNatGcdS (a:Nat)(A:Option Addr)(c:Nat)(hc:(lim a).length≤c)(b:Nat)(D:Option Addr)(d:Nat)(hd:(lim b).length≤d)(hLa:(lim a).length≤3000000000)(hLb:(lim b).length≤1)(w:World)(h:Hp)(g:G w h)(hA:S3 A (lim a) h)(hD:S3 D (lim b) h):CR 144 #[.slice A ((lim a).length) c,.slice D ((lim b).length) d] w h (fun v h1=>RN h1 v (Nat.gcd a b)):=by
 have hs:=(((sS g).aS hA).aS hD);refine go Tryz.func144 [(0,qS A ((lim a).length) c),(1,qS D ((lim b).length) d)] rfl (cSLlL hs [.v 4 (sZ)] (lNcQ (kZ ?_)));replace hs:=hs.aS hs.f.1;replace hs:=hs.aS hs.f.r.1;refine cTo _ (CG.loop (fun μ_ Γ w_=>∃ (x:Nat) (A1:Option Addr) (c1:Nat) (y:Nat) (A2:Option Addr) (c2:Nat) (h_:Hp),μ_=y∧Γ=[(4,sZ),(0,qS A1 ((lim x).length) c1),(1,qS A2 ((lim y).length) c2)]∧SS w h w_ h_ [] [] [S3 A1 (lim x),S3 A2 (lim y),S3 D (lim b),S3 A (lim a)]∧(lim x).length≤c1∧(lim y).length≤c2∧(lim x).length≤3000000000∧(lim y).length≤1∧Nat.gcd x y=Nat.gcd a b) _ ⟨a,A,c,b,D,d,h,rfl,rfl,hs.to _ _,hc,hd,hLa,hLb,rfl⟩ ?_);rintro _ _ w1 ⟨x,A1,c1,y,A2,c2,h2,hm3,rfl,hs,hc1,hc2,hl1,hl2,hG⟩;refine cQ (cSLlL hs [.m 7 1,.v 8 (nV ((lim y).length))] ?_);cases hb4:(decide ((0:Int)<(((lim y).length:Nat):Int)))
 ·
  have phb4:=oF hb4;refine lB 9 hb4 (lNIF (CG.exit ?_))
  show CG _ _ _ _ _ _ _ _
  refine cSLlL hs [.m 18 0,.m 4 18] (lN (kX ?_));have hy0:y=0:=Nat.eq_zero_of_not_pos (fun h_=>by have:=lim_pos.2 h_;omega);exact hs.ret [] (qS A1 ((lim x).length) c1) (by rw[←hG,hy0,Nat.gcd_zero_right];exact ⟨A1,c1,rfl,hc1,hs.f.1⟩)
 have phb4:=oT hb4;refine lB 9 hb4 (lNIT (cK (kZ (cSLlL hs [.m 11 0,.m 12 1] (lC 13 hs (rNatDivS x A1 c1 hc1 y A2 c2 hc2 oM oM (lim_pos.1 oM) _ _ hs.g hs.f.1 hs.f.2.1) ?_)))));rintro _ w5 h6 hs ⟨_,_,rfl,⟨Aq,cq,rfl,hcq,hq⟩,⟨Ar,cr,rfl,hcr,hr⟩⟩;replace hs:=hs.aS hr;have hmd:=Nat.mod_lt x (lim_pos.1 (show 0<(lim y).length by omega));have hml:=lim_len_mono (show x%y≤y by omega);refine lL hs [.m 10 13,.v 14 (qS Aq (lim (x/y)).length cq),.v 15 (qS Ar ((lim (x%y)).length) cr),.m 5 14,.m 6 15] (lNS (lL hs [.m 16 1,.m 0 16] (lN (kQ (lL hs [.m 17 6,.m 1 17] (lD ?_))))));intro a_ ka;replace hs:=((hs.tl.tl.tl.aS hs.f.1).aS hs.f.r.1);refine ⟨_,_,?_,⟨y,A2,c2,x%y,Ar,cr,h6,rfl,rfl,hs.to _ _,hc2,hcr,oM,oM,(by rw[gcd_mod_swapL];exact hG)⟩,ka.to _ kR⟩
 omega
theorem rNatGcdES (a:Nat)(A:Option Addr)(c:Nat)(hc:(lim a).length≤c)(b:Nat)(D:Option Addr)(d:Nat)(hd:(lim b).length≤d)(q:Nat)(hq:q=Nat.gcd a b)(hLa:(lim a).length≤3000000000)(hLb:(lim b).length≤1)(w:World)(h:Hp)(g:G w h)(hA:S3 A (lim a) h)(hD:S3 D (lim b) h):CR 144 #[.slice A (lim a).length c,.slice D (lim b).length d] w h (fun v h1=>RN h1 v q):=by
  subst hq;exact rNatGcdS a A c hc b D d hd hLa hLb w h g hA hD
theorem lim_small1 {z:Int}(h0 : -4294967296<z)(h1:z<4294967296):(lim (iabs z)).length≤1:=lim_len_le (by unfold iabs;omega)
theorem rMakeS (x:Int)(A:Option Addr)(c:Nat)(hc:(lim (iabs x)).length≤c)(hLx:(lim (iabs x)).length≤2000000000)(y:Int)(D:Option Addr)(d:Nat)(hd:(lim (iabs y)).length≤d)(hLy:(lim (iabs y)).length≤1)(hd0:y≠0)(w:World)(h:Hp)(g:G w h)(hA:S3 A (lim (iabs x)) h)(hD:S3 D (lim (iabs y)) h):CR 108 #[.agg #[.bool (ineg x),.slice A ((lim (iabs x)).length) c],.agg #[.bool (ineg y),.slice D ((lim (iabs y)).length) d]] w h (fun v h1=>RQ h1 v (mkR x y)):=by
 have hs:=(((sS g).aS hA).aS hD);obtain ⟨hm1,hm2,hq0⟩:=mkR_parts x y hd0;obtain ⟨q,hq⟩:∃ q,q=Nat.gcd (iabs x) (iabs y):=⟨_,rfl⟩;rw[←hq] at hm1 hm2 hq0
 have hql:(lim q).length≤1:=lim_len_le' (by rw[hq];exact Nat.gcd_le_right _ (by unfold iabs;omega)) hLy;refine go Tryz.func108 [(0,.agg #[.bool (ineg x),qS A ((lim (iabs x)).length) c]),(1,.agg #[.bool (ineg y),qS D ((lim (iabs y)).length) d])] rfl (cSL (lA 2 26 ([.bool (ineg x),qS A ((lim (iabs x)).length) c]) hs (fun b1 w2 h3 hs=>lA 3 26 ([.bool (ineg y),qS D ((lim (iabs y)).length) d]) hs (fun b4 w5 h6 hs=>lA 4 28 ([qF,sZ,sZ]) hs (fun b7 w8 h9 hs=>lNS (lL hs [.v 10 (qP b1 1),.o 11 (qS A ((lim (iabs x)).length) c) 2 1 1,.v 12 (qP b4 1),.o 13 (qS D ((lim (iabs y)).length) d) 1 1 1] (lC 14 hs (rNatGcdES (iabs x) A c hc (iabs y) D d hd q hq oM oM _ _ hs.g hs.f.2.1 hs.f.1) ?_)))))));rintro _ _ _ hs ⟨zf,zg,rfl,zc,zk⟩;replace hs:=hs.aS zk;refine lL hs [.m 5 14] (lNS (lL hs [.v 16 (qP b1 1),.o 17 (qS A ((lim (iabs x)).length) c) 2 1 1,.m 18 5] (lC 19 hs (rNatDivS (iabs x) A c hc q zf zg zc oM oM hq0 _ _ hs.g hs.f.r.1 hs.f.1) ?_)));rintro _ _ _ hs ⟨_,v2_A16,rfl,⟨zi,zj,rfl,zl,zm⟩,-⟩;replace hs:=hs.aS zm;refine lL hs [.m 15 19,.v 20 (qS zi ((lim ((iabs x)/q)).length) zj),.v 21 v2_A16,.m 6 20,.m 7 21] (lNS (lL hs [.v 23 (qP b4 1),.o 24 (qS D ((lim (iabs y)).length) d) 1 1 1,.m 25 5] (lC 26 hs (rNatDivS (iabs y) D d hd q zf zg zc oM oM hq0 _ _ hs.g hs.f.r.1 hs.f.2.1) ?_)));rintro _ _ _ hs ⟨_,v2_A22,rfl,⟨za,zb,rfl,zn,zo⟩,-⟩;replace hs:=hs.aS zo;refine lL hs [.m 22 26,.v 27 (qS za ((lim ((iabs y)/q)).length) zb),.v 28 v2_A22,.m 8 27,.m 9 28] (lNS (lL hs [.v 29 (pB b1),.o 30 (.bool (ineg x)) 2 0 1,.v 31 (pB b4),.o 32 (.bool (ineg y)) 1 0 1,.v 33 (.bool ((ineg x) != (ineg y))),.m 34 6] (lC 35 hs (rI ((ineg x) != (ineg y)) ((iabs x)/q) zi zj zl _ _ hs.g hs.f.2.1) ?_)));rintro _ _ _ hs ⟨zd,ze,rfl,zp,zq⟩;replace hs:=hs.aS zq;exact lL hs [.m 36 8,.v 37 (.agg #[.bool (ineg (sgn ((ineg x) != (ineg y)) ((iabs x)/q))),qS zd ((lim (iabs (sgn ((ineg x) != (ineg y)) ((iabs x)/q)))).length) ze,qS za ((lim ((iabs y)/q)).length) zb])] (lP 0 0 ([.bool (ineg (sgn ((ineg x) != (ineg y)) ((iabs x)/q))),qS zd ((lim (iabs (sgn ((ineg x) != (ineg y)) ((iabs x)/q)))).length) ze,qS za ((lim ((iabs y)/q)).length) zb]) hs (fun _ hs=>lNkXr hs [(0,0,3)] (.agg #[.bool (ineg (sgn ((ineg x) != (ineg y)) ((iabs x)/q))),qS zd ((lim (iabs (sgn ((ineg x) != (ineg y)) ((iabs x)/q)))).length) ze,qS za ((lim ((iabs y)/q)).length) zb]) (by unfold RQ;rw[hm1,hm2];exact ⟨_,_,_,_,rfl,zp,zn,hs.f.1,hs.f.2.1⟩)))
theorem rOverS (x y:Int)(hy0:y≠0)(h0 : -9223372036854775808≤x)(h1:x<9223372036854775808)(h2 : -4294967296<y)(h3:y<4294967296)(w:World)(h:Hp)(g:G w h):CR 72 #[iV x,iV y] w h (fun v h1=>RQ h1 v (mkR x y)):=by
 have hs:=sS g;have hx_:=lim_small h0 h1;have hy_:=lim_small1 h2 h3;refine go Tryz.func72 [(0,iV x),(1,iV y)] rfl (cSL (lA 4 28 ([qF,sZ,sZ]) hs (fun b1 w2 h3 hs=>lNS (lL hs [.m 5 0] (lC 6 hs (rIntOf x oM oM _ _ hs.g) ?_)))));rintro _ w8 h9 hs ⟨A4,c5,rfl,hc6,hA7⟩;replace hs:=hs.aS hA7;refine lL hs [.m 7 1] (lC 8 hs (rIntOf y oM oM _ _ hs.g) ?_);rintro _ _ _ hs ⟨zl,zm,rfl,ze,zf⟩;replace hs:=hs.aS zf;refine lC 9 hs (rMakeS x A4 c5 hc6 oM y zl zm ze oM hy0 _ _ hs.g hs.f.2.1 hs.f.1) ?_;rintro _ _ _ hs ⟨za,zb,zc,zd,rfl,zg,zi,zj,zk⟩;replace hs:=hs.aP zj zk;exact lP 0 0 (rqx (mkR x y) za zb zc zd) hs (fun _ hs=>lNkXr hs [(0,0,3)] (rG (mkR x y) za zb zc zd) (by skip;exact ⟨_,_,_,_,rfl,zg,zi,hs.f.2.1,hs.f.1⟩))
theorem hNat (a:Nat)(A:Option Addr)(c:Nat)(hc:(lim a).length≤c)(hl:(lim a).length≤300000000)(w:World)(h:Hp)(g:G w h)(hA:S3 A (lim a) h):CV 48 #[.slice A ((lim a).length) c] w h (nv a):=by
 have hs:=((sS g).aS hA);have hnb:=nb_len a;refine go Tryz.func48 [(0,qS A ((lim a).length) c)] rfl (cSL (lA 2 36 ([uV 0,eS]) hs (fun b1 w2 h3 hs=>lNS (lL hs [.m 3 0] (lC 4 hs (rNatBytes a A c hc oM _ _ hs.g hs.f.1) ?_)))));rintro _ w6 h7 hs ⟨A4,rfl,hA5⟩;replace hs:=hs.aS hA5;exact lCval 5 hs (nFromB a ((nb a+7)/8) A4 ((nb a+7)/8) (nR _) oM (lt256 a) _ _ hs.g hs.f.1) (fun w8 h9 hs=>lP 0 0 (nc a) hs (fun _ hs=>lNkXr hs [(0,0,2)] (nv a) rfl))
theorem hInt (z:Int)(A:Option Addr)(c:Nat)(hc:(lim (iabs z)).length≤c)(hl:(lim (iabs z)).length≤300000000)(w:World)(h:Hp)(g:G w h)(hA:S3 A (lim (iabs z)) h):CV 46 #[.agg #[.bool (ineg z),.slice A ((lim (iabs z)).length) c]] w h (iv z):=by
 have hs:=((sS g).aS hA);have hwl:=wds_lim (iabs z);refine go Tryz.func46 [(0,.agg #[.bool (ineg z),qS A ((lim (iabs z)).length) c])] rfl (cSL (lA 1 26 ([.bool (ineg z),qS A ((lim (iabs z)).length) c]) hs (fun b1 w2 h3 hs=>lA 2 38 ([qF,uV 0,eS]) hs (fun b4 w5 h6 hs=>lNcQ (cR 6 [] mixed hs al_nil ?_)))));exact eV 0 3 (pB b1) (eO 1 4 [(1,0,1)] (.bool (ineg z)) hs (eV 2 5 (qP b1 1) (eO 3 6 [(1,1,1)] (qS A ((lim (iabs z)).length) c) hs (eCval 4 7 hs (fun _ _ hs=>hNat (iabs z) A c hc (by first|exact hl|exact LQ.ld hq|omega) _ _ hs.g hs.f.1) (fun w7 h8 hs=>eCval 5 8 hs (fun _ _ hs=>wFrom (ineg z) (iabs z) oM _ _ hs.g) (fun w9 _ hs=>eD0 hs (fun _ _ hs=>tP 6 0 0 (ic (sgn (ineg z) (iabs z))) hs (fun _ hs=>tN (kX (hs.ret [(0,0,3)] (iv (sgn (ineg z) (iabs z))) (congrArg iv (sgn_self z))))))))))))
theorem mkR_self (q:Rat):mkR q.num ((q.den:Nat):Int)=q:=by
  unfold mkR;rw[if_neg oM];show mkRat q.num q.den=q;rw[Rat.mkRat_self]
theorem hIn (q:Rat)(A1:Option Addr)(c1:Nat)(D1:Option Addr)(d1:Nat)(hc1:(lim (iabs q.num)).length≤c1)(hd1:(lim q.den).length≤d1)(hq:LQ 100000000 q)(w:World)(h:Hp)(g:G w h)(hA1:S3 A1 (lim (iabs q.num)) h)(hD1:S3 D1 (lim q.den) h)(tb:Tab h):CV 22 #[rG q A1 c1 D1 d1] w h (qv q):=by
 have hs:=((((sS g).aS hA1).aS hD1).aB tb);refine go Tryz.func22 [(0,rG q A1 c1 D1 d1)] rfl (cSL (lA 1 28 (rqx q A1 c1 D1 d1) hs (fun b1 w2 h3 hs=>lA 2 40 ([qF,uV 0,eS,uV 0,eS]) hs (fun b4 w5 h6 hs=>lNcQ ?_))));have hsr:=hs;exact cR 12 [⟨11,3,.cells (List.toArray [qF,uV 0,eS,uV 0,eS]) 40 (0,0)⟩] mixed hs (al_cons (alOk kR (fun _ _=>by kernel_rfl)) al_nil) (eV 0 6 (pB b1) (eO 1 7 [(1,0,2)] (.agg #[.bool (ineg q.num),qS A1 ((lim (iabs q.num)).length) c1]) hs (eV 3 9 (qP b1 2) (eO 4 10 [(1,2,1)] (qS D1 ((lim q.den).length) d1) hs (eCval 2 8 hs (fun _ _ hs=>hInt q.num A1 c1 hc1 (LQ.ln hq) _ _ hs.g hs.f.r.1) (fun w7 h8 hs=>eCval 5 11 hs (fun _ _ hs=>hNat q.den D1 d1 hd1 (by first|exact hl|exact LQ.ld hq|omega) _ _ hs.g hs.f.2.1) (fun w9 _ hs=>eCval 6 12 hs (fun _ _ hs=>wFromN q.den _ _ hs.g) (fun _ _ hs=>eCval 7 13 hs (fun _ _ hs=>fMake q.num (q.den:Int) (by have:=q.den_pos;omega) (by have:=hq.1;omega) (by show (wds q.den).length≤_;have:=hq.2;omega) _ _ hs.g hs.f.1) (fun _ _ hs=>eV 8 5 (.tuple #[qv (mkR q.num (q.den:Int)),qT]) (eV 9 14 (qv (mkR q.num (q.den:Int))) (eV 10 15 qT (eD1p [] hsr hs 40 [qF,uV 0,eS,uV 0,eS] (fun _ _ b17 hs=>tP 12 0 0 (qc (mkR q.num (q.den:Int))) hs (fun _ hs=>tV 13 4 qT (tNS (lL hs [.o 16 (qv (mkR q.num (q.den:Int))) 0 0 5] (lP 1 0 (qc (mkR q.num (q.den:Int))) hs (fun _ hs=>lNkXr hs [(1,0,5)] (qv (mkR q.num (q.den:Int))) (congrArg qv (mkR_self q))))))))))))))))))))
theorem hInV (v:Value)(q:Rat)(hq:LQ 100000000 q)(w:World)(h:Hp)(g:G w h)(hv:RQ h v q)(tb:Tab h):CV 22 #[v] w h (qv q):=by
  obtain ⟨A,c,B,d,rfl,h1,h2,h3,h4⟩:=hv;exact hIn q A c B d h1 h2 hq w h g h3 h4 tb
theorem LQ.mkR {n d:Int}(hd:d≠0)(h0 : -9223372036854775808≤n)(h1:n≤9223372036854775807)(h2 : -9223372036854775808≤d)(h3:d≤9223372036854775807):LQ 1 (mkR n d):=by
  unfold Go.Proofs.YthblejkgjjallaaGreatDoor.mkR
  have hp:0<iabs d:=by unfold iabs;omega
  obtain ⟨p1,p2,p3,p4⟩:=mkRat_parts (if d<0 then -n else n) (iabs d) hp;refine ⟨?_,?_⟩
  · rw[p1];refine wds_len_lit.2 (Nat.lt_of_le_of_lt (iabs_div_le _ _ p3) ?_)
    unfold iabs;split<;>omega
  · rw[p2];exact wds_len_lit.2 (Nat.lt_of_le_of_lt (Nat.div_le_self _ _) (by unfold iabs;omega))
def pick (n:Int)(m:Nat):Nat:=(n%(m:Int)).toNat
theorem pick_lt (n:Int)(m:Nat)(h:0<m):pick n m<m:=by
  unfold pick
  have h1:=Int.emod_nonneg n (show (m:Int)≠0 by omega);have h2:=Int.emod_lt_of_pos n (show (0:Int)<m by omega)
  omega
theorem pick_int (n:Int)(m:Nat)(h:0<m):((pick n m:Nat):Int)=n%(m:Int):=by
  unfold pick
  have h1:=Int.emod_nonneg n (show (m:Int)≠0 by omega)
  omega
theorem tmod_neg (n:Int)(m:Nat)(hm:0<m)(hn:n<0):(n%(m:Int)=0∧n.tmod (m:Int)=0)∨(0<n%(m:Int)∧n.tmod (m:Int)=n%(m:Int)-m):=by
  have b1:=Int.emod_nonneg n (show (m:Int)≠0 by omega);rw[Int.tmod_eq_emod]
  by_cases h:(m:Int)∣n
  · left
    rw[if_pos (.inr h)];have:=Int.emod_eq_zero_of_dvd h;exact ⟨this,by omega⟩
  · right
    have h2:¬(n%(m:Int)=0):=fun h'=>h (Int.dvd_of_emod_eq_zero h')
    rw[if_neg (by intro h';rcases h' with h'|h';omega;exact h h')];refine ⟨by omega,by simp⟩
def dDen (k:Nat):Nat:=match k with|0=>1|1=>1|2=>1|3=>2|4=>3|_=>4
theorem dDen_pos (k:Nat):0<dDen k:=by unfold dDen;split<;>omega
theorem dDen_le (k:Nat):dDen k≤4:=by unfold dDen;split<;>omega
def handRq (n:Int):Rat:=mkR ((pick n 41:Int)-20) (dDen (pick (n.tdiv 41) 6):Nat)
def smallq (n:Int):Rat:=mkR ((pick n 9:Int)-4) (((pick (n.tdiv 9) 2:Nat):Int)+1)
theorem tdiv_bd (n:Int)(m:Int)(hm:1<m)(hn0 : -9223372036854775808≤n)(hn1:n≤9223372036854775807) : -9223372036854775808≤n.tdiv m∧n.tdiv m≤9223372036854775807:=by
  have h1:(n.tdiv m).natAbs≤n.natAbs/2:=by
    rw[Int.natAbs_tdiv];exact Nat.div_le_div_left oM oM
  omega
theorem pick_neg {n:Int}{m:Nat}(hm:0<m)(h:n.tmod (m:Int)<0):n.tmod (m:Int)+m=((pick n m:Nat):Int):=by
  rw[pick_int n m hm]
  rcases Int.lt_or_le n 0 with hn|hn
  · rcases tmod_neg n m hm hn with ⟨h1,h2⟩|⟨h1,h2⟩<;>omega
  · rw[Int.tmod_eq_emod_of_nonneg hn] at h
    have:=Int.emod_nonneg n (show (m:Int)≠0 by omega)
    omega
theorem pick_nneg {n:Int}{m:Nat}(hm:0<m)(h:¬n.tmod (m:Int)<0):n.tmod (m:Int)=((pick n m:Nat):Int):=by
  rw[pick_int n m hm]
  rcases Int.lt_or_le n 0 with hn|hn
  · rcases tmod_neg n m hm hn with ⟨h1,h2⟩|⟨h1,h2⟩
    · omega
    · have:=Int.emod_lt_of_pos n (show (0:Int)<m by omega)
      omega
  · rw[Int.tmod_eq_emod_of_nonneg hn]
theorem tmod_bd (n:Int){m:Nat}(hm:0<m) : -(m:Int)<n.tmod (m:Int)∧n.tmod (m:Int)<m:=by
  have h1:=Int.tmod_lt_of_pos n (show (0:Int)<m by omega);have h2:=Int.lt_tmod_of_pos n (show (0:Int)<m by omega);exact ⟨h2,h1⟩
theorem hPick (n:Int)(m:Nat)(hm:0<m)(hm2:m<1000000)(w:World)(h:Hp)(g:G w h):CV 17 #[iV n,nV m] w h (nV (pick n m)):=by
 have hs:=sS g;obtain ⟨b1,b2⟩:=tmod_bd n hm;refine go Tryz.func17 [(0,iV n),(1,nV m)] rfl (cSLlL hs [.v 4 (iV 0)] (lNS (lL hs [.m 5 0,.m 6 1] (lV 7 (iV (n.tmod (m:Nat))) ?_ (hr:=opRem (t:=3) (u:=3) (x:=.tmp 5) (y:=.tmp 6) (k:=.i64) (a:=n) (b:=(m:Nat)) kR kR kR oM _)))));refine lL hs [.m 0 7] (lNcQ (cSLlL hs [.m 8 0] ?_));cases hb1:(decide ((n.tmod (m:Nat):Int)<(0:Int)))
 ·
  have phb1:=oF hb1;exact lB 9 hb1 (lNIF (cK (cSLlL hs [.m 13 0,.m 4 13] (lNkXr hs [] (iV (n.tmod (m:Nat))) (congrArg (Value.int .i64) (pick_nneg hm aM))))))
 have phb1:=oT hb1;refine lB 9 hb1 (lNIT (kQ (lL hs [.m 10 0,.m 11 1] (lI 12 ((n.tmod (m:Nat))+(m:Nat)) ?_))));exact lL hs [.m 0 12] (lNS (lL hs [.m 13 0,.m 4 13] (lNkXr hs [] (iV ((n.tmod (m:Nat))+(m:Nat))) (congrArg (Value.int .i64) (pick_neg hm aM)))))
theorem index6_0 (w:World):(Instr.index 128 (.agg #[.int .i64 1,.int .i64 1,.int .i64 1,.int .i64 2,.int .i64 3,.int .i64 4]) (.int .i64 0)).run Tryz.prog w=.ok (.int .i64 1) w:=by kernel_rfl
theorem index6_1 (w:World):(Instr.index 128 (.agg #[.int .i64 1,.int .i64 1,.int .i64 1,.int .i64 2,.int .i64 3,.int .i64 4]) (.int .i64 1)).run Tryz.prog w=.ok (.int .i64 1) w:=by kernel_rfl
theorem index6_2 (w:World):(Instr.index 128 (.agg #[.int .i64 1,.int .i64 1,.int .i64 1,.int .i64 2,.int .i64 3,.int .i64 4]) (.int .i64 2)).run Tryz.prog w=.ok (.int .i64 1) w:=by kernel_rfl
theorem index6_3 (w:World):(Instr.index 128 (.agg #[.int .i64 1,.int .i64 1,.int .i64 1,.int .i64 2,.int .i64 3,.int .i64 4]) (.int .i64 3)).run Tryz.prog w=.ok (.int .i64 2) w:=by kernel_rfl
theorem index6_4 (w:World):(Instr.index 128 (.agg #[.int .i64 1,.int .i64 1,.int .i64 1,.int .i64 2,.int .i64 3,.int .i64 4]) (.int .i64 4)).run Tryz.prog w=.ok (.int .i64 3) w:=by kernel_rfl
theorem index6_5 (w:World):(Instr.index 128 (.agg #[.int .i64 1,.int .i64 1,.int .i64 1,.int .i64 2,.int .i64 3,.int .i64 4]) (.int .i64 5)).run Tryz.prog w=.ok (.int .i64 4) w:=by kernel_rfl
theorem index6 (k:Nat)(h:k<6)(w:World):(Instr.index 128 (.agg #[.int .i64 1,.int .i64 1,.int .i64 1,.int .i64 2,.int .i64 3,.int .i64 4]) (.int .i64 (k:Int))).run Tryz.prog w=.ok (.int .i64 ((dDen k:Nat):Int)) w:=by
  have:k=0∨k=1∨k=2∨k=3∨k=4∨k=5:=by omega
  rcases this with rfl|rfl|rfl|rfl|rfl|rfl
  · exact index6_0 w
  · exact index6_1 w
  · exact index6_2 w
  · exact index6_3 w
  · exact index6_4 w
  · exact index6_5 w
theorem idx6 {Γ:Env}{o:Oper}{x y:Operand}(k:Nat)(h:k<6)(ho:o.op=.index 128 x y)(hx:ev Γ x=.agg #[.int .i64 1,.int .i64 1,.int .i64 1,.int .i64 2,.int .i64 3,.int .i64 4])(hy:ev Γ y=.int .i64 (k:Nat))(w:World) :
    (execOp (ev Γ) o).run Tryz.prog w=.ok (.value (.int .i64 (dDen k:Nat))) w:=by
  unfold execOp;simp only[ho];rw[hx,hy,Sem.run_bind,index6 k h w];rfl
theorem hR (n:Int)(h0 : -9223372036854775808≤n)(h1:n≤9223372036854775807)(w:World)(h:Hp)(g:G w h):CR 41 #[iV n] w h (fun v h1=>RQ h1 v (handRq n)):=by
 have hs:=sS g;obtain ⟨t0,t1⟩:=tdiv_bd n 41 oM h0 h1;have l1:=pick_lt n 41 oM;have l2:=pick_lt (n.tdiv 41) 6 oM;have p1:=dDen_pos (pick (n.tdiv 41) 6);have p2:=dDen_le (pick (n.tdiv 41) 6);refine go Tryz.func41 [(0,iV n)] rfl (cSL (lA 2 28 ([qF,sZ,sZ]) hs (fun b1 w2 h3 hs=>lNS (lL hs [.m 3 0] (lCval 4 hs (hPick (n) 41 oM oM _ _ hs.g) (fun w5 h6 hs=>?_))))));have lp4:=pick_lt (n) 41 oM;refine lI 5 ((pick (n) 41:Nat)-20) (lL hs [.v 6 (.agg #[iV 1,iV 1,iV 1,iV 2,iV 3,iV 4]),.m 7 0] (lV 8 (iV (n.tdiv 41)) ?_ (hr:=rS ((n.tdiv 41)) kR (fitI64 oM oM))));refine lCval 9 hs (hPick (n.tdiv 41) 6 oM oM _ _ hs.g) (fun w8 h9 hs=>?_);have lp7:=pick_lt (n.tdiv 41) 6 oM;refine lV 10 (nV (dDen (pick (n.tdiv 41) 6))) ?_ (hr:=idx6 (x:=.tmp 6) (y:=.tmp 9) (pick (n.tdiv 41) 6) l2 kR kR kR _);refine lC 11 hs (rOverS ((pick (n) 41:Nat)-20) (dDen (pick (n.tdiv 41) 6):Nat) oM oM oM oM oM _ _ hs.g) ?_;rintro _ _ _ hs ⟨za,zb,zc,zd,rfl,ze,zf,zg,zi⟩;replace hs:=hs.aP zg zi;exact lP 0 0 (rqx (handRq n) za zb zc zd) hs (fun _ hs=>lNkXr hs [(0,0,3)] (rG (handRq n) za zb zc zd) (⟨_,_,_,_,rfl,ze,zf,hs.f.2.1,hs.f.1⟩))
theorem LQ.hand (n:Int):LQ 1 (handRq n):=by
  unfold handRq
  have l1:=pick_lt n 41 oM;have p1:=dDen_pos (pick (n.tdiv 41) 6);have p2:=dDen_le (pick (n.tdiv 41) 6);exact LQ.mkR oM oM oM oM oM
abbrev RT:=Bool × Value × Value
def rqc (t:RT):List Value:=[.bool t.1,t.2.1,t.2.2]
def rqd:RT:=(false,undef,undef)
abbrev rA (t:RT):Value:=.agg #[.bool t.1,t.2.1,t.2.2]
abbrev Sr (A:Option Addr)(l:List RT):Hp→Prop:=fun h_=>SlO 3 rqc rqd h_ A l
def rtv (t:RT):Value:=.agg #[.bool t.1,t.2.1,t.2.2]
structure RTs (h:Hp) (ts:List RT) (qs:List Rat):Prop where
  len:ts.length=qs.length
  at_:∀ i,i<qs.length→RQ h (rtv (ts.getD i rqd)) (qs.getD i 0)
abbrev Rt (t:List RT)(l:List Rat):Hp→Prop:=fun h_=>RTs h_ t l
theorem getD_snoc {α:Type}(l:List α)(x d:α)(i:Nat):(l++[x]).getD i d=if i<l.length then l.getD i d else if i=l.length then x else d:=by
  split
  · rename_i h;simp[List.getElem?_append_left h]
  · rename_i h
    split
    · rename_i h2;subst h2;simp
    · rename_i h2;simp[List.getElem?_eq_none (show (l++[x]).length≤i by simp;omega)]
theorem take_snoc' {α:Type}{l:List α}{k:Nat}(d:α)(h:k<l.length):l.take (k+1)=l.take k++[l.getD k d]:=by
  rw[List.take_add_one];simp[h]
def vc (v:Value):List Value:=[v]
abbrev Sv (A:Option Addr)(l:List Value):Hp→Prop:=fun h_=>SlO 1 vc undef h_ A l
def I64s (zs:List Int):Prop:=∀ k,-9223372036854775808≤zs.getD k 0∧zs.getD k 0≤9223372036854775807
structure RVs (h:Hp) (vs:List Value) (qss:List (List Rat)):Prop where
  len:vs.length=qss.length
  at_:∀ i,i<qss.length→∃ A cap,∃ ts:List RT,vs.getD i undef=.slice A ts.length cap∧ts.length≤cap∧SlO 3 rqc rqd h A ts∧RTs h ts (qss.getD i [])
abbrev Ru (t:List Value)(l:List (List Rat)):Hp→Prop:=fun h_=>RVs h_ t l
structure QVs (h:Hp) (vs:List Value) (qss:List (List Rat)):Prop where
  len:vs.length=qss.length
  at_:∀ i,i<qss.length→SlV 5 qc 0 h (vs.getD i undef) (qss.getD i [])
abbrev Qu (t:List Value)(l:List (List Rat)):Hp→Prop:=fun h_=>QVs h_ t l
def maxR (a b:Rat):Rat:=if a<b then b else a
structure Lay where
  k:Int
  W:List (List Rat)
  B:List Rat
def lay0:Lay:=⟨0,[],[]⟩
abbrev LV:=Int × Value × Value
def lvd:LV:=(0,undef,undef)
structure NetL (h:Hp) (ts:List LV) (ls:List Lay):Prop where
  len:ts.length=ls.length
  at_:∀ i,i<ls.length→(ts.getD i lvd).1=(ls.getD i lay0).k∧(∃ A c,∃ us:List Value,(ts.getD i lvd).2.1=.slice A us.length c∧us.length≤c∧SlO 1 vc undef h A us∧QVs h us (ls.getD i lay0).W)∧SlV 5 qc 0 h (ts.getD i lvd).2.2 (ls.getD i lay0).B
abbrev Nn (t:List LV)(l:List Lay):Hp→Prop:=fun h_=>NetL h_ t l
structure RNetL (h:Hp) (ts:List LV) (ls:List Lay):Prop where
  len:ts.length=ls.length
  at_:∀ i,i<ls.length→(ts.getD i lvd).1=(ls.getD i lay0).k∧(∃ A c,∃ us:List Value,(ts.getD i lvd).2.1=.slice A us.length c∧us.length≤c∧SlO 1 vc undef h A us∧RVs h us (ls.getD i lay0).W) ∧
    (∃ A c,∃ rs:List RT,(ts.getD i lvd).2.2=.slice A rs.length c∧rs.length≤c∧SlO 3 rqc rqd h A rs∧RTs h rs (ls.getD i lay0).B)
abbrev Rn (t:List LV)(l:List Lay):Hp→Prop:=fun h_=>RNetL h_ t l
def Smalls (l:List Rat):Prop:=∀ q∈l,∃ z,q=smallq z
structure LayMk (L:Lay) (kq:Nat) (r c:Nat):Prop where
  k:L.k=(kq:Int)
  rows:L.W.length=r
  row:∀ q∈L.W,q.length=c∧Smalls q
  bl:L.B.length=r
  bs:Smalls L.B
theorem rNext (A:Option Addr)(cap:Nat)(zs:List Int)(hl:zs.length≤9223372036854775807)(hz:I64s zs)(rbk at_:Nat)(ha:at_≤zs.length)(w:World)(h:Hp)(g:G w h)(ho:Own w rbk 62 [.slice A zs.length cap,nV at_])(hj:h[rbk]?=some junk)(hA:Si A zs h):Calls Tryz.prog 40 #[pB rbk] w (RetM rbk w h fun v w' _=>∃ (z:Int) (at2:Nat),v=iV z∧at2≤zs.length∧(-9223372036854775808≤z∧z≤9223372036854775807)∧Own w' rbk 62 [.slice A zs.length cap,nV at2]):=by
 have hmo:UpM [rbk] w h w h:=UpM.refl g;obtain ⟨wz,hz0_,hs⟩:=SS.at_ g ho hj;replace hs:=hs.aS hA;refine go Tryz.func40 [(0,pB rbk)] rfl (cSLlL hs [.v 2 (iV 0)] (lNcQ (cQ (cR 10 [] mixed hs al_nil ?_))));refine eV 0 3 (pB rbk) (eV 1 4 (pB rbk) (eV 2 5 (qP rbk 1) (eO 3 6 [(0,1,1)] (nV at_) hs (eV 4 7 (pB rbk) (eV 5 8 (pB rbk) (eV 6 9 (pB rbk) (eO 7 10 [(0,0,1)] (qS A zs.length cap) hs (eV 8 11 (nV zs.length) ?_))))))));cases hb1:(decide ((zs.length:Int)≤(at_:Int)))
 ·
  have phb1:=oF hb1;refine eB 9 12 hb1 (eD0u hs (fun w2 h3 u4 hs=>?_));replace hmo:=hmo.trans (u4.m _);refine tN (cIF (cK (cSLlL hs [.m 13 0,.v 14 (pB rbk),.v 15 (qP rbk 1),.o 16 (nV at_) 0 1 1] (lIn 17 ((at_:Nat)+1) (at_+1) ?_))));refine lL hs [.v 18 (pB rbk),.v 19 (qP rbk 1)] (lPu 0 1 ([nV (at_+1)]) hs (fun w5 pu hs=>?_));replace hmo:=hmo.put pu (List.mem_singleton.2 rfl) hs.g;refine lNcQ (cR 11 [] mixed hs al_nil ?_);refine eV 0 20 (pB rbk) (eV 1 21 (pB rbk) (eV 2 22 (pB rbk) (eO 3 23 [(0,0,1)] (qS A zs.length cap) hs (eV 4 24 (pB rbk) (eV 5 25 (pB rbk) (eV 6 26 (qP rbk 1) (eO 7 27 [(0,1,1)] (nV (at_+1)) hs (eIn 8 28 ((at_+1:Nat)-1) ((at_+1)-1) (eX 9 29 A zs.length cap 1 ((at_+1)-1:Nat) ((at_+1)-1) ((hs.f.1).ok oM) (eH 10 30 (iV (zs.getD ((at_+1)-1) 0)) hs ((hs.f.1).el ((at_+1)-1) oM) (eD0u hs (fun w6 h7 u8 hs=>?_))))))))))));replace hmo:=hmo.trans (u8.m _);exact tV 11 2 (iV (zs.getD ((at_+1)-1) 0)) (tN (kX (hs.retM hmo [] (iV (zs.getD ((at_+1)-1) 0)) ⟨zs.getD ((at_+1)-1) 0,(at_+1),rfl,by omega,hz _,hs.own 0⟩)))
 have phb1:=oT hb1;refine eB 9 12 hb1 (eD0u hs (fun w9 _ u11 hs=>?_));replace hmo:=hmo.trans (u11.m _);exact tN (cIT (cSLlL hs [.v 2 (iV 0)] (lN (kX (hs.retM hmo [] (iV 0) ⟨0,at_,rfl,by omega,⟨by decide,by decide⟩,hs.own 0⟩)))))
structure LayFit (L:Lay):Prop where
  rl:L.W.length≤1000000
  rls:∀ i,i<L.W.length→(L.W.getD i []).length≤1000000
  rf:∀ i,i<L.W.length→∀ j,j<(L.W.getD i []).length→LQ 100000000 ((L.W.getD i []).getD j 0)
  bl:L.B.length≤1000000
  bf:∀ i,i<L.B.length→LQ 100000000 (L.B.getD i 0)
structure Stp where
  op:Int
  a:Int
  b:Int
  n:Int
  q:Rat
abbrev sX (p:Stp):Value:=.agg #[iV p.op,iV p.a,iV p.b,iV p.n,.bool (ineg p.q.num),uV (lo (iabs p.q.num)),.string (hi (iabs p.q.num)),uV (lo (qd p.q)),.string (hi (qd p.q))]
abbrev sC (p:Stp):List Value:=[iV p.op,iV p.a,iV p.b,iV p.n,.bool (ineg p.q.num),uV (lo (iabs p.q.num)),.string (hi (iabs p.q.num)),uV (lo (qd p.q)),.string (hi (qd p.q))]
abbrev sW (o a b n:Int)(q:Rat):Value:=.agg #[iV o,iV a,iV b,iV n,.bool (ineg q.num),uV (lo (iabs q.num)),.string (hi (iabs q.num)),uV (lo (qd q)),.string (hi (qd q))]
abbrev sG (o a b n:Int)(q:Rat):List Value:=[iV o,iV a,iV b,iV n,.bool (ineg q.num),uV (lo (iabs q.num)),.string (hi (iabs q.num)),uV (lo (qd q)),.string (hi (qd q))]
def stp0:Stp:=⟨0,0,0,0,0⟩
abbrev gP (l:List Stp)(k:Nat):Stp:=l.getD k stp0
def ari (op:Int):Int :=
  if op=1∨op=2 then 0 else if op=7∨op=8∨op=9∨op=10∨op=11 then 1
  else if op=3∨op=4∨op=5∨op=6∨op=12∨op=13 then 2 else -1
theorem ari_cases (op:Int):(ari op=0∧(op=1∨op=2))∨(ari op=1∧(op=7∨op=8∨op=9∨op=10∨op=11))∨(ari op=2∧(op=3∨op=4∨op=5∨op=6∨op=12∨op=13))∨(ari op = -1∧(op<1∨13<op)):=by
  unfold ari;split
  · exact .inl ⟨rfl,by assumption⟩
  · split
    · exact .inr (.inl ⟨rfl,by assumption⟩)
    · split
      · exact .inr (.inr (.inl ⟨rfl,by assumption⟩))
      · exact .inr (.inr (.inr ⟨rfl,by omega⟩))
def Refers (i:Nat)(tt:Int)(used:Prop):Prop:=(used→0≤tt∧tt<i)∧(¬used→tt=0)
def Formed (inp:Int)(i:Nat)(s:Stp):Prop :=
  0≤ari s.op∧Refers i s.a (0<ari s.op)∧Refers i s.b (1<ari s.op)∧(s.op≠1→s.q.num=0) ∧
  (s.op=2→0≤s.n∧s.n<inp)∧(s.op=8 → -12≤s.n∧s.n≤12)∧(s.op≠2→s.op≠8→s.n=0)
instance (i:Nat) (tt:Int) (u:Prop) [Decidable u]:Decidable (Refers i tt u):=by unfold Refers;infer_instance
instance (inp:Int) (i:Nat) (s:Stp):Decidable (Formed inp i s):=by unfold Formed;infer_instance
def OutsOk (n:Nat)(os:List Int):Prop:=∀ i,i<os.length→0≤os.getD i 0∧os.getD i 0<n
instance (n:Nat) (os:List Int):Decidable (OutsOk n os):=by unfold OutsOk;infer_instance
structure RSt where
  op:Int
  a:Int
  b:Int
  n:Int
  t:RT
def rst0:RSt:=⟨0,0,0,0,rqd⟩
structure OSt where
  op:Int
  a:Int
  b:Int
  n:Int
  q:Rat
  has:Bool
def ost0:OSt:=⟨0,0,0,0,0,false⟩
def odn (o:OSt):Nat:=if o.has then o.q.den else 0
def OSt.stp (o:OSt):Stp:=⟨o.op,o.a,o.b,o.n,o.q⟩
abbrev gO (s:List OSt)(k:Nat):OSt:=s.getD k ost0
abbrev mO (s:List OSt):List Stp:=s.map OSt.stp
structure RS1 (h:Hp) (t:RSt) (o:OSt):Prop where
  op:t.op=o.op
  a:t.a=o.a
  b:t.b=o.b
  n:t.n=o.n
  q:RP h (rtv t.t) o.q.num (odn o)
  z:o.has=false→o.q=0
structure RSs (h:Hp) (ts:List RSt) (os:List OSt):Prop where
  len:ts.length=os.length
  at_:∀ i,i<os.length→RS1 h (ts.getD i rst0) (os.getD i ost0)
structure OSm (o:OSt):Prop where
  op : -1000≤o.op∧o.op≤1000
  a : -1000≤o.a∧o.a≤1000
  b : -1000≤o.b∧o.b≤1000
  n : -1000≤o.n∧o.n≤1000
  q:LQ 1 o.q
def OSms (os:List OSt):Prop:=∀ i,i<os.length→OSm (os.getD i ost0)
section
variable {inp:Int} {i:Nat} {s:Stp} (h:Formed inp i s)
include h
end
theorem getD_mem {α:Type}{l:List α}{i:Nat}{d:α}(h:i<l.length):l.getD i d∈l:=by
  rw[List.getD_eq_getElem?_getD,List.getElem?_eq_getElem h];exact List.getElem_mem h
theorem getD_over {α:Type}{l:List α}{i:Nat}{d:α}(h:l.length≤i):l.getD i d=d:=by
  rw[List.getD_eq_getElem?_getD,List.getElem?_eq_none h];rfl
def strc (s:ByteArray):List Value:=[.string s]
inductive Tm where
  | mk (op n:Int) (q:Rat) (s:ByteArray) (ks:List Tm)
def Tm.op:Tm→Int|.mk op _ _ _ _=>op
def Tm.n:Tm→Int|.mk _ n _ _ _=>n
def Tm.q:Tm→Rat|.mk _ _ q _ _=>q
def Tm.s:Tm→ByteArray|.mk _ _ _ s _=>s
def Tm.ks:Tm→List Tm|.mk _ _ _ _ ks=>ks
def tm0:Tm:=.mk 0 0 0 ⟨#[]⟩ []
structure PTm where
  op:Int
  n:Int
  q:Rat
  s:ByteArray
  A:Option Addr
  m:Nat
  c:Nat
abbrev pX (p:PTm):Value:=.agg #[iV p.op,iV p.n,.bool (ineg p.q.num),uV (lo (iabs p.q.num)),.string (hi (iabs p.q.num)),uV (lo (qd p.q)),.string (hi (qd p.q)),.string p.s,.slice p.A p.m p.c]
abbrev pC (p:PTm):List Value:=[iV p.op,iV p.n,.bool (ineg p.q.num),uV (lo (iabs p.q.num)),.string (hi (iabs p.q.num)),uV (lo (qd p.q)),.string (hi (qd p.q)),.string p.s,.slice p.A p.m p.c]
abbrev pW (o n:Int)(q:Rat)(s:ByteArray)(A:Option Addr)(m c:Nat):Value:=.agg #[iV o,iV n,.bool (ineg q.num),uV (lo (iabs q.num)),.string (hi (iabs q.num)),uV (lo (qd q)),.string (hi (qd q)),.string s,.slice A m c]
abbrev pG (o n:Int)(q:Rat)(s:ByteArray)(A:Option Addr)(m c:Nat):List Value:=[iV o,iV n,.bool (ineg q.num),uV (lo (iabs q.num)),.string (hi (iabs q.num)),uV (lo (qd q)),.string (hi (qd q)),.string s,.slice A m c]
def ptm0:PTm:=⟨0,0,0,⟨#[]⟩,none,0,0⟩
def ptc (p:PTm):List Value:=[.int .i64 p.op,.int .i64 p.n,.bool (ineg p.q.num),.int .u64 (lo (iabs p.q.num)),.string (hi (iabs p.q.num)),.int .u64 (lo (qd p.q)),.string (hi (qd p.q)),.string p.s,.slice p.A p.m p.c]
def ptv (p:PTm):Value:=.agg #[.int .i64 p.op,.int .i64 p.n,.bool (ineg p.q.num),.int .u64 (lo (iabs p.q.num)),.string (hi (iabs p.q.num)),.int .u64 (lo (qd p.q)),.string (hi (qd p.q)),.string p.s,.slice p.A p.m p.c]
def TmH:Nat→Hp→PTm→Tm→Prop
  | 0,_,_,_=>False
  | d+1,h,p,t=>p.op=t.op∧p.n=t.n∧p.q=t.q∧p.s=t.s∧p.m=t.ks.length∧p.m≤p.c∧∃ ps:List PTm,ps.length=t.ks.length∧SlO 9 ptc ptm0 h p.A ps∧∀ i,i<t.ks.length→TmH d h (ps.getD i ptm0) (t.ks.getD i tm0)
theorem TmH.gw:∀ {d:Nat} {h h':Hp} {p:PTm} {t:Tm},TmH d h p t→Gw h h'→TmH d h' p t
  | 0,_,_,_,_,x,_=>x
  | d+1,_,_,_,_,⟨h1,h2,h3,h4,h5,h6,ps,h7,h8,h9⟩,u=>⟨h1,h2,h3,h4,h5,h6,ps,h7,h8.gw u,fun i hi=>TmH.gw (h9 i hi) u⟩
theorem TmH.mono {h:Hp}:∀ {d e:Nat} {p:PTm} {t:Tm},TmH d h p t→d≤e→TmH e h p t
  | d+1,e+1,_,_,⟨h1,h2,h3,h4,h5,h6,ps,h7,h8,h9⟩,u=>⟨h1,h2,h3,h4,h5,h6,ps,h7,h8,fun i hi=>TmH.mono (h9 i hi) oM⟩
structure RTm where
  op:Int
  n:Int
  neg:Bool
  zA:Option Addr
  zn:Nat
  zc:Nat
  dA:Option Addr
  dn:Nat
  dc:Nat
  s:ByteArray
  A:Option Addr
  m:Nat
  c:Nat
def RTm.t (r:RTm):RT:=(r.neg,.slice r.zA r.zn r.zc,.slice r.dA r.dn r.dc)
def rtm0:RTm:=⟨0,0,false,none,0,0,none,0,0,⟨#[]⟩,none,0,0⟩
def rmc (r:RTm):List Value:=[.int .i64 r.op,.int .i64 r.n,.bool r.neg,.slice r.zA r.zn r.zc,.slice r.dA r.dn r.dc,.string r.s,.slice r.A r.m r.c]
def rmv (r:RTm):Value:=.agg #[.int .i64 r.op,.int .i64 r.n,.bool r.neg,.slice r.zA r.zn r.zc,.slice r.dA r.dn r.dc,.string r.s,.slice r.A r.m r.c]
def RZ (h:Hp)(t:RT)(q:Rat):Prop:=∃ has:Bool,RP h (rtv t) q.num (if has then q.den else 0)∧(has=false→q=0)
theorem RZ.gw {h h':Hp}{t:RT}{q:Rat}(x:RZ h t q)(u:Gw h h'):RZ h' t q:=by
  obtain ⟨hs,h1,h2⟩:=x;exact ⟨hs,h1.gw u,h2⟩
def RmH:Nat→Hp→RTm→Tm→Prop
  | 0,_,_,_=>False
  | d+1,h,r,t=>r.op=t.op∧r.n=t.n∧RZ h r.t t.q∧r.s=t.s∧r.m=t.ks.length∧r.m≤r.c∧∃ rs:List RTm,rs.length=t.ks.length∧SlO 7 rmc rtm0 h r.A rs∧∀ i,i<t.ks.length→RmH d h (rs.getD i rtm0) (t.ks.getD i tm0)
theorem rz_has {h:Hp}{b:Bool}{zA dA:Option Addr}{zn zc dn dc:Nat}{q:Rat}(x:RZ h (b,.slice zA zn zc,.slice dA dn dc) q)(p:0<dn):RP h (.agg #[.bool b,.slice zA zn zc,.slice dA dn dc]) q.num q.den:=by
  obtain ⟨hs,h1,h2⟩:=x;cases hs
  · obtain ⟨A,c,D,d,e,hc,hd,hA,hD⟩:=h1
    injection e with e
    have e3:=congrArg (fun a:Array Value=>a.toList) e
    simp at e3
    have:dn=(lim 0).length:=e3.2.2.2.1;have h0:(lim 0).length=0:=by have:=@lim_pos 0;omega
    omega
  · exact h1
theorem rz_no {h:Hp}{b:Bool}{zA dA:Option Addr}{zn zc dc:Nat}{q:Rat}(x:RZ h (b,.slice zA zn zc,.slice dA 0 dc) q):q=0:=by
  obtain ⟨hs,h1,h2⟩:=x;cases hs
  · exact h2 rfl
  · obtain ⟨A,c,D,d,e,hc,hd,hA,hD⟩:=h1
    injection e with e
    have e3:=congrArg (fun a:Array Value=>a.toList) e
    simp at e3
    have h3:0=(lim q.den).length:=e3.2.2.2.1;have h4:=(@lim_pos q.den).2 q.den_pos
    omega
theorem RmH.gw:∀ {d:Nat} {h h':Hp} {r:RTm} {t:Tm},RmH d h r t→Gw h h'→RmH d h' r t
  | 0,_,_,_,_,x,_=>x
  | d+1,_,_,_,_,⟨h1,h2,h3,h4,h5,h6,ps,h7,h8,h9⟩,u=>⟨h1,h2,h3.gw u,h4,h5,h6,ps,h7,h8.gw u,fun i hi=>RmH.gw (h9 i hi) u⟩
structure Tms (d:Nat) (h:Hp) (ps:List PTm) (ts:List Tm):Prop where
  len:ps.length=ts.length
  at_:∀ i,i<ts.length→TmH d h (ps.getD i ptm0) (ts.getD i tm0)
theorem Tms.gw {d:Nat}{h h':Hp}{ps:List PTm}{ts:List Tm}(x:Tms d h ps ts)(u:Gw h h'):Tms d h' ps ts:=⟨x.len,fun i hi=>(x.at_ i hi).gw u⟩
structure Rms (d:Nat) (h:Hp) (rs:List RTm) (ts:List Tm):Prop where
  len:rs.length=ts.length
  at_:∀ i,i<ts.length→RmH d h (rs.getD i rtm0) (ts.getD i tm0)
theorem Rms.gw {d:Nat}{h h':Hp}{rs:List RTm}{ts:List Tm}(x:Rms d h rs ts)(u:Gw h h'):Rms d h' rs ts:=⟨x.len,fun i hi=>(x.at_ i hi).gw u⟩
theorem Rms.nil {d:Nat}{h:Hp}:Rms d h [] []:=⟨rfl,fun i hi=>by simp at hi⟩
theorem Rms.snoc {d:Nat}{h:Hp}{rs:List RTm}{ts:List Tm}{r:RTm}{t:Tm}(x:Rms d h rs ts)(y:RmH d h r t):Rms d h (rs++[r]) (ts++[t]):=by
  refine ⟨by simp[x.len],fun i hi=>?_⟩;rw[List.length_append,List.length_singleton] at hi
  rw[getD_snoc,getD_snoc,x.len]
  by_cases e:i<ts.length
  · rw[if_pos e,if_pos e];exact x.at_ i e
  · rw[if_neg e,if_neg e,if_pos oM,if_pos oM];exact y
theorem Tms.nil {d:Nat}{h:Hp}:Tms d h [] []:=⟨rfl,fun i hi=>by simp at hi⟩
theorem Tms.snoc {d:Nat}{h:Hp}{rs:List PTm}{ts:List Tm}{r:PTm}{t:Tm}(x:Tms d h rs ts)(y:TmH d h r t):Tms d h (rs++[r]) (ts++[t]):=by
  refine ⟨by simp[x.len],fun i hi=>?_⟩;rw[List.length_append,List.length_singleton] at hi
  rw[getD_snoc,getD_snoc,x.len]
  by_cases e:i<ts.length
  · rw[if_pos e,if_pos e];exact x.at_ i e
  · rw[if_neg e,if_neg e,if_pos oM,if_pos oM];exact y
theorem TmH.mk {d:Nat}{h:Hp}{op n:Int}{q:Rat}{s:ByteArray}{A:Option Addr}{c:Nat}{ps:List PTm}{ks:List Tm}(x:Tms d h ps ks)(hc:ps.length≤c)(hA:SlO 9 ptc ptm0 h A ps):TmH (d+1) h ⟨op,n,q,s,A,ps.length,c⟩ (.mk op n q s ks) :=
  ⟨rfl,rfl,rfl,rfl,x.len,hc,ps,x.len,hA,x.at_⟩
theorem RmH.mk {d:Nat}{h:Hp}{op n:Int}{b:Bool}{zA dA:Option Addr}{zn zc dn dc:Nat}{q:Rat}{s:ByteArray}{A:Option Addr}{c:Nat}{ps:List RTm}{ks:List Tm}(z:RZ h (b,.slice zA zn zc,.slice dA dn dc) q)(x:Rms d h ps ks)(hc:ps.length≤c)(hA:SlO 7 rmc rtm0 h A ps):RmH (d+1) h ⟨op,n,b,zA,zn,zc,dA,dn,dc,s,A,ps.length,c⟩ (.mk op n q s ks) :=
  ⟨rfl,rfl,z,rfl,x.len,hc,ps,x.len,hA,x.at_⟩
theorem TmH.open {d:Nat}{h:Hp}{p:PTm}{t:Tm}(x:TmH (d+1) h p t):∃ op n q s A c,∃ ps:List PTm,∃ ks:List Tm,p=⟨op,n,q,s,A,ps.length,c⟩∧t=.mk op n q s ks∧ps.length≤c∧SlO 9 ptc ptm0 h A ps∧Tms d h ps ks:=by
  obtain ⟨op,n,q,s,A,m,c⟩:=p;cases t with
  | mk op2 n2 q2 s2 ks =>
    obtain ⟨h1,h2,h3,h4,h5,h6,ps,h7,h8,h9⟩:=x;obtain rfl:op=op2:=h1;obtain rfl:n=n2:=h2;obtain rfl:q=q2:=h3;obtain rfl:s=s2:=h4;obtain rfl:m=ps.length:=(show m=ks.length from h5).trans h7.symm;exact ⟨op,n,q,s,A,c,ps,ks,rfl,rfl,h6,h8,h7,h9⟩
theorem RmH.mono {h:Hp}{d e:Nat}{p:RTm}{t:Tm}(x:RmH d h p t)(u:d≤e):RmH e h p t:=by
  induction d generalizing e p t with
  | zero=>exact x.elim
  | succ d ih =>
    cases e with
    | zero=>omega
    | succ e =>
      obtain ⟨h1,h2,h3,h4,h5,h6,ps,h7,h8,h9⟩:=x;exact ⟨h1,h2,h3,h4,h5,h6,ps,h7,h8,fun i hi=>ih (h9 i hi) oM⟩
theorem RmH.open {d:Nat}{h:Hp}{p:RTm}{t:Tm}(x:RmH (d+1) h p t):∃ op n b zA zn zc dA dn dc q s A c,∃ ps:List RTm,∃ ks:List Tm,p=⟨op,n,b,zA,zn,zc,dA,dn,dc,s,A,ps.length,c⟩∧t=.mk op n q s ks∧RZ h (b,.slice zA zn zc,.slice dA dn dc) q∧ps.length≤c∧SlO 7 rmc rtm0 h A ps∧Rms d h ps ks:=by
  obtain ⟨op,n,b,zA,zn,zc,dA,dn,dc,s,A,m,c⟩:=p;cases t with
  | mk op2 n2 q2 s2 ks =>
    obtain ⟨h1,h2,h3,h4,h5,h6,ps,h7,h8,h9⟩:=x;obtain rfl:op=op2:=h1;obtain rfl:n=n2:=h2;obtain rfl:s=s2:=h4;obtain rfl:m=ps.length:=(show m=ks.length from h5).trans h7.symm;exact ⟨op,n,b,zA,zn,zc,dA,dn,dc,q2,s,A,c,ps,ks,rfl,rfl,h3,h6,h8,h7,h9⟩
def sumN (f:Nat→Nat):Nat→Nat
  | 0=>0
  | k+1=>sumN f k+f k
def timesN (n:Int):Nat:=if n.natAbs≤1 then 1 else n.natAbs
def wgt:Nat→Tm→Nat
  | 0,_=>0
  | d+1,t=>if t.ks.length=0 then 1 else (if t.op=11 then 2 else if t.op=8 then timesN t.n else 1)*sumN (fun i=>wgt d (t.ks.getD i tm0)) t.ks.length
def WfT (ok:ByteArray→Prop):Nat→Tm→Prop
  | 0,_=>False
  | d+1,t=>ari t.op=t.ks.length∧(t.op≠1→t.q=0)∧LQ 1 t.q∧(t.op=2→ok t.s)∧(t.op≠2→t.s=⟨#[]⟩)∧(t.op≠8→t.n=0) ∧ -12≤t.n∧t.n≤12∧∀ i,i<t.ks.length→WfT ok d (t.ks.getD i tm0)
theorem WfT.mono {ok:ByteArray→Prop}:∀ {d e:Nat} {t:Tm},WfT ok d t→d≤e→WfT ok e t
  | d+1,e+1,_,⟨h1,h2,h3,h4,h5,h6,h7,h8,h9⟩,u=>⟨h1,h2,h3,h4,h5,h6,h7,h8,fun i hi=>WfT.mono (h9 i hi) oM⟩
def SmT (sm:ByteArray→Prop):Nat→Tm→Prop
  | 0,_=>False
  | d+1,t=>t.ks.length≤3∧(-1000≤t.op∧t.op≤1000)∧(-1000≤t.n∧t.n≤1000)∧LQ 1 t.q∧sm t.s∧∀ i,i<t.ks.length→SmT sm d (t.ks.getD i tm0)
theorem SmT.mono {sm:ByteArray→Prop}:∀ {d e:Nat} {t:Tm},SmT sm d t→d≤e→SmT sm e t
  | d+1,e+1,_,⟨h1,h2,h3,h4,h5,h6⟩,u=>⟨h1,h2,h3,h4,h5,fun i hi=>SmT.mono (h6 i hi) oM⟩
theorem WfT.sm {ok sm:ByteArray→Prop}(h:∀ s,ok s→sm s)(h0:sm ⟨#[]⟩):∀ {d:Nat} {t:Tm},WfT ok d t→SmT sm d t
  | d+1,t,⟨h1,h2,h3,h4,h5,h6,h7,h8,h9⟩=>by
    have hc:=ari_cases t.op;refine ⟨by omega,⟨by omega,by omega⟩,⟨by omega,by omega⟩,h3,?_,fun i hi=>WfT.sm h h0 (h9 i hi)⟩
    by_cases e:t.op=2
    · exact h _ (h4 e)
    · rw[h5 e];exact h0
def WfH (isb:ByteArray→Bool)(op n:Int)(q:Rat)(s:ByteArray)(m:Nat):Prop:=ari op=m∧(op=1∨q.num=0)∧((op=2→isb s=true)∧(op≠2→s=⟨#[]⟩))∧((op=8∨n=0) ∧ -12≤n∧n≤12)
section
variable {isb:ByteArray→Bool} {d:Nat} {op n:Int} {q:Rat} {s:ByteArray} {ks:List Tm}
theorem wf_head (w:WfT (fun s=>isb s=true) (d+1) (.mk op n q s ks)):WfH isb op n q s ks.length:=by
  obtain ⟨h1,h2,h3,h4,h5,h6,h7,h8,h9⟩:=w;refine ⟨h1,?_,⟨h4,h5⟩,?_,h7,h8⟩
  · by_cases e:op=1
    · exact .inl e
    · exact .inr (Rat.num_eq_zero.2 (h2 e))
  · by_cases e:op=8
    · exact .inl e
    · exact .inr (h6 e)
theorem wf_ff (h:¬WfH isb op n q s ks.length):∃ bb,Value.bool false=.bool bb∧(bb=true↔WfT (fun s=>isb s=true) (d+1) (.mk op n q s ks)):=⟨false,rfl,fun h_=>(by cases h_),fun w=>absurd (wf_head w) h⟩
theorem wf_fk {k:Nat}(hk:k<ks.length){bk:Bool}(hb:bk=false)(h:bk=true↔WfT (fun s=>isb s=true) d (ks.getD k tm0)):∃ bb,Value.bool false=.bool bb∧(bb=true↔WfT (fun s=>isb s=true) (d+1) (.mk op n q s ks)):=⟨false,rfl,fun h_=>(by cases h_),fun ⟨_,_,_,_,_,_,_,_,h9⟩=>by rw[h.2 (h9 k hk)] at hb;cases hb⟩
theorem wf_tt (h:WfH isb op n q s ks.length)(hq:LQ 1 q)(hW:∀ i,i<ks.length→WfT (fun s=>isb s=true) d (ks.getD i tm0)):∃ bb,Value.bool true=.bool bb∧(bb=true↔WfT (fun s=>isb s=true) (d+1) (.mk op n q s ks)):=by
  obtain ⟨h1,h2,⟨h4,h5⟩,h6,h7,h8⟩:=h;refine ⟨true,rfl,fun _=>⟨h1,fun e=>Rat.num_eq_zero.1 (h2.resolve_left e),hq,h4,h5,fun e=>h6.resolve_left e,h7,h8,hW⟩,fun _=>rfl⟩
end
def trT (nm:Int→ByteArray)(l:List Stp):Nat→Nat→Tm
  | 0,_=>tm0
  | f+1,i =>
    if (l.getD i stp0).op=2 then .mk 2 0 0 (nm (l.getD i stp0).n) []
    else if ari (l.getD i stp0).op=1 then .mk (l.getD i stp0).op (l.getD i stp0).n 0 ⟨#[]⟩ [trT nm l f (l.getD i stp0).a.toNat]
    else if ari (l.getD i stp0).op=2 then .mk (l.getD i stp0).op 0 0 ⟨#[]⟩ [trT nm l f (l.getD i stp0).a.toNat,trT nm l f (l.getD i stp0).b.toNat]
    else .mk (l.getD i stp0).op 0 (l.getD i stp0).q ⟨#[]⟩ []
structure LayLen (L:Lay):Prop where
  rl:L.W.length≤1000000
  rls:∀ i,i<L.W.length→(L.W.getD i []).length≤1000000
  bl:L.B.length≤1000000
structure Mat (W:List (List Rat)) (r c:Nat):Prop where
  rows:W.length=r
  rpos:0<r
  cpos:0<c
  row:∀ i,i<r→(W.getD i []).length=c
structure Net3 (ls:List Lay) (d:Nat→Nat):Prop where
  len:1≤ls.length∧ls.length≤4
  first:d 0≤20
  lay:∀ i,i<ls.length→Mat (ls.getD i lay0).W (d (i+1)) (d i)∧(ls.getD i lay0).B.length=d (i+1)∧d (i+1)≤12∧((ls.getD i lay0).k=1∨(ls.getD i lay0).k=2∨(ls.getD i lay0).k=3)
def act (k:Int)(u:Rat):Rat:=if k=2 then maxR u 0 else if k=3 then u/(((1:Int):Rat)+qabs u) else u
def layq (L:Lay)(x:List Rat):List Rat:=(List.range L.W.length).map fun i=>act L.k (dotq (L.W.getD i []) x x.length+L.B.getD i 0)
def outq (ls:List Lay)(xs:List Rat):Nat→List Rat
  | 0=>xs
  | k+1=>layq (ls.getD k lay0) (outq ls xs k)
abbrev gD (ls:List Lay)(xs:List Rat)(k r:Nat):Rat:=dotq ((ls.getD k lay0).W.getD r []) (outq ls xs k) (outq ls xs k).length
abbrev gS (ls:List Lay)(xs:List Rat)(k r:Nat):Rat:=gD ls xs k r+((ls.getD k lay0).B).getD r 0
structure NetB (ls:List Lay) (xs:List Rat):Prop where
  w:∀ k i j,LQ 1000000 (((ls.getD k lay0).W.getD i []).getD j 0)
  b:∀ k i,LQ 1000000 ((ls.getD k lay0).B.getD i 0)
  x:∀ k,k≤ls.length→∀ j,LQ 1000000 ((outq ls xs k).getD j 0)
structure LaySz (L:Lay):Prop where
  rl:L.W.length≤8
  rls:∀ i,(L.W.getD i []).length≤8
  bl:L.B.length≤8
  w:∀ i j,LQ 1 ((L.W.getD i []).getD j 0)
  b:∀ i,LQ 1 (L.B.getD i 0)
  b4:L.B.length≤4
  w4:(L.W.getD 0 []).length≤4
theorem lq0 {k:Nat}(h:1≤k):LQ k 0:=(LQ.lit (z:=0) kD).mono h
section fut
variable {P:Program} {n:Nat} {N R:Po} {X:Nat→Po} {ops:Array Oper} {k0 K:Nat} {L:Array Bool} {Γ:Env} {w:World} {h:Hp} {w0:World} {h0:Hp} {B:List Bx} {Rs:List Rw} {F:List (Hp→Prop)}
end fut
structure LayS4 (L:Lay):Prop where
  rl:L.W.length≤4
  rls:∀ i,(L.W.getD i []).length≤4
  bl:L.B.length≤4
  w:∀ i j,LQ 1 ((L.W.getD i []).getD j 0)
  b:∀ i,LQ 1 (L.B.getD i 0)
section fla
variable {P:Program} {n:Nat} {N R:Po} {X:Nat→Po} {ops:Array Oper} {k:Nat} {Γ:Env} {w:World} {h:Hp} {w0:World} {h0:Hp} {B:List Bx} {Rs:List Rw} {F:List (Hp→Prop)}
end fla
section prt
variable {M:Ms} {P:Program} {n:Nat} {N R:Po} {X:Nat→Po} {ops:Array Oper} {k k0:Nat} {hr:Hp} {AL:List Al} {L:Array Bool} {Γ:Env} {w:World} {h:Hp}
end prt
def okq (op n:Int)(a b:Rat):Prop:=(op=6→b≠0)∧(op=8→n<0→a≠0)
instance (op n:Int) (a b:Rat):Decidable (okq op n a b):=by unfold okq;infer_instance
def knk (op:Int)(a b:Rat):Prop:=(op=9∨op=10)∧a=0∨(op=12∨op=13)∧a=b
instance (op:Int) (a b:Rat):Decidable (knk op a b):=by unfold knk;infer_instance
section
variable {sm:Bool} {inp:Int} {l:List Stp} {os:List Int} {at_:List Rat}
end
structure MapJ (h0:Hp) (B:List Bx) (w:World) (h:Hp) (b:Nat) (es:List MapEntry) (clk:Nat):Prop where
  obj:w.heap[b]?=some (.map es.toArray clk)
  jk:h[b]?=some junk
  lo:h0.size≤b
  nb:∀ x∈B,x.b≠b
def MapS (h:Hp)(b:Nat)(es:List MapEntry):Prop:=∃ clk,h[b]?=some (.map es.toArray clk)
theorem MapS.gw {h h':Hp}{b:Nat}{es:List MapEntry}(x:MapS h b es)(u:Gw h h'):MapS h' b es:=by
  obtain ⟨c,e⟩:=x;refine ⟨c,?_⟩
  rcases u.blk b (lt_of_some e) with k|k
  · exact k.trans e
  · rw[e] at k;cases k
theorem MapS.w {w:World}{h:Hp}{b:Nat}{es:List MapEntry}(x:MapS h b es)(g:G w h):∃ clk,w.heap[b]?=some (.map es.toArray clk):=by
  obtain ⟨c,e⟩:=x;refine ⟨c,?_⟩
  rcases g.blk b with k|k
  · rw[←k];exact e
  · rw[e] at k;cases k
theorem run_upd {P:Program}(w:World){mty kt et:TypeId}{b clk:Nat}{es:Array MapEntry}{s:ByteArray}{val:Value}(hm:P.underlying mty=some (.map kt et))(hk:P.underlying kt=some .string)(hb:w.heap[b]?=some (.map es clk))(hf:Instr.findNow .string (.string s) es.toList 0=some none) :
    (Instr.mapUpdate mty (.map (some b)) (.string s) val).run P w=.ok () { w with heap:=w.heap.setIfInBounds b (.map (es.push { key:=.string s,val:=val,born:=clk }) (clk+1)) }:=by
  have hc:(Instr.checkKey false 10000 kt (.string s)).run P w=.ok () w:=MapKept.run_checkKey (k:=.string s) hk (by simp[MapKept.IsKey]) false 9999
  simp[Instr.mapUpdate,run_underlying hm,MapKept.run_getObj_map hb,hc,MapKept.run_findKey hk hf,MapKept.run_setObj_map _ hb,Result.andThen]
theorem run_updo {P:Program}(w:World){mty kt et:TypeId}{b clk i:Nat}{es:Array MapEntry}{s:ByteArray}{val v0:Value}(hm:P.underlying mty=some (.map kt et))(hk:P.underlying kt=some .string)(hb:w.heap[b]?=some (.map es clk))(hf:Instr.findNow .string (.string s) es.toList 0=some (some (i,v0)))(he:((es[i]?).map (·.key)).getD (.string s)=.string s) :
    (Instr.mapUpdate mty (.map (some b)) (.string s) val).run P w=.ok () { w with heap:=w.heap.setIfInBounds b (.map (es.modify i fun e=>{ e with key:=.string s,val:=val }) clk) }:=by
  have hc:(Instr.checkKey false 10000 kt (.string s)).run P w=.ok () w:=MapKept.run_checkKey (k:=.string s) hk (by simp[MapKept.IsKey]) false 9999;have hq:(s == s)=true:=by first|exact beq_self_eq_true s|(show (s.data == s.data)=true;exact beq_self_eq_true _)|(cases s;rfl)
  have hs:Instr.sameBits 10000 (.string s) (.string s)=true:=by simp[Instr.sameBits,hq]
  simp[Instr.mapUpdate,run_underlying hm,MapKept.run_getObj_map hb,hc,MapKept.run_findKey hk hf,MapKept.run_setObj_map _ hb,Result.andThen,he,Instr.keyThatStays,hs]
theorem run_look {P:Program}(w:World){mty kt et:TypeId}{b clk:Nat}{es:Array MapEntry}{s:ByteArray}(ok:Bool){v:Value}{found:Bool}(hm:P.underlying mty=some (.map kt et))(hk:P.underlying kt=some .string)(hb:w.heap[b]?=some (.map es clk))
    (hf:(∃ i,Instr.findNow .string (.string s) es.toList 0=some (some (i,v))∧found=true)∨(Instr.findNow .string (.string s) es.toList 0=some none∧found=false∧(zeroValue et).run P w=.ok v w)) :
    (Instr.lookup mty (.map (some b)) (.string s) ok).run P w=.ok (if ok then .tuple #[v,.bool found] else v) w:=by
  have hc:(Instr.checkKey es.isEmpty 10000 kt (.string s)).run P w=.ok () w:=MapKept.run_checkKey (k:=.string s) hk (by simp[MapKept.IsKey]) _ 9999
  rcases hf with ⟨i,hf,rfl⟩|⟨hf,rfl,hz⟩
  · simp[Instr.lookup,run_underlying hm,MapKept.run_getObj_map hb,hc,MapKept.run_findKey hk hf,Result.andThen]
  · simp[Instr.lookup,run_underlying hm,MapKept.run_getObj_map hb,hc,MapKept.run_findKey hk hf,hz,Result.andThen]
theorem put_map {w:World}{b:Nat}{o o':Obj}(hb:w.heap[b]?=some o):Put b w { w with heap:=w.heap.setIfInBounds b o' }∧({ w with heap:=w.heap.setIfInBounds b o' }:World).heap[b]?=some o':=by
  have hlt:b<w.heap.size:=(Array.getElem?_eq_some_iff.1 hb).1;refine ⟨⟨rfl,rfl,rfl,by simp,fun c hc=>by show (w.heap.setIfInBounds b o')[c]?=_;rw[Array.getElem?_setIfInBounds_ne (Ne.symm hc)]⟩,?_⟩
  show (w.heap.setIfInBounds b o')[b]?=_
  rw[Array.getElem?_setIfInBounds_self_of_lt hlt]
def strQ (s t:ByteArray):Bool:=s.toList == t.toList
def strQn (s t:ByteArray):Bool:=!(s.toList == t.toList)
theorem strQ_t {s t:ByteArray}(h:strQ s t=true):s=t:=by
  have e:=eq_of_beq (show (s.toList == t.toList)=true from h);rw[Lib.toList_data,Lib.toList_data] at e
  cases s;cases t;congr 1;exact Array.toList_inj.1 e
theorem strQ_f {s t:ByteArray}(h:strQ s t=false):¬s=t:=fun e=>by
  subst e;have:strQ s s=true:=beq_self_eq_true _;rw[this] at h;cases h
theorem strQn_t {s t:ByteArray}(h:strQn s t=true):¬s=t:=strQ_f (by unfold strQn at h;unfold strQ;cases e:(s.toList == t.toList)<;>rw[e] at h<;>first|rfl|cases h)
theorem strQn_f {s t:ByteArray}(h:strQn s t=false):s=t:=strQ_t (by unfold strQn at h;unfold strQ;cases e:(s.toList == t.toList)<;>rw[e] at h<;>first|rfl|cases h)
section laws
variable {P:Program} {n:Nat} {N R:Po} {X:Nat→Po} {ops:Array Oper} {k:Nat} {Γ:Env} {w:World} {h:Hp} {w0:World} {h0:Hp} {B:List Bx} {Rs:List Rw} {F:List (Hp→Prop)}
theorem SS.pokeJ (s:SS w0 h0 w h B [] F){b:Nat}{w':World}(hj:h[b]?=some junk)(hl:h0.size≤b)(hn:∀ x∈B,x.b≠b)(p:Put b w w'):SS w0 h0 w' h B [] F :=
  ⟨s.g0,⟨s.st.up.put p hj hl s.g0.size,fun x hx=>(p.blk _ (hn x hx)).trans (s.st.own x hx),s.st.jk,s.st.lo,s.st.nd⟩,fun _ hx=>(by cases hx),.nil,s.mo,s.f⟩
theorem lMk (t:Nat)(s:SS w0 h0 w h B Rs F)(H:∀ b w' h',SS w0 h0 w' h' B Rs F→MapJ h0 B w' h' b [] 0→LG P n N R X ops (k+1) ((t,.map (some b))::Γ) w')(hc:cL ops Γ k t n=true:=by kernel_rfl)
    (hr:(execOp (ev Γ) (opAt ops k)).run P w=.ok (.value (.map (some w.heap.size))) (w.alloc (.map #[] 0)):=by kernel_rfl):LG P n N R X ops k Γ w:=by
  have u:Up w h (w.alloc (.map #[] 0)) (h.push junk):=Up.allocAny s.g _ _ (.inr rfl);refine LG.val t _ _ (cL_1 hc).1 (cL_1 hc).2 hr (H _ _ _ (s.step u) ⟨?_,?_,?_,fun x hx e=>?_⟩)
  · rw[heap_alloc];exact Array.getElem?_push_size
  · rw[s.g.size];exact Array.getElem?_push_size
  · rw[s.g.size];exact s.st.sz
  · have:=lt_of_some (s.st.jk x hx)
    have:=s.g.size
    omega
theorem lMu {b clk:Nat}{es:List MapEntry}(mty kt et:TypeId)(ky:ByteArray)(val:Value)(s:SS w0 h0 w h B [] F)(m:MapJ h0 B w h b es clk)(H:∀ w',SS w0 h0 w' h B [] F→MapJ h0 B w' h b (es++[⟨.string ky,val,clk⟩]) (clk+1)→LG P n N R X ops (k+1) Γ w')
    (hc:cS ops Γ k=true:=by kernel_rfl)(hx:execOp (ev Γ) (opAt ops k)=(do Instr.mapUpdate mty (.map (some b)) (.string ky) val;pure .skip):=by kernel_rfl)(hu:P.underlying mty=some (.map kt et):=by kernel_rfl)(hk:P.underlying kt=some .string:=by kernel_rfl)(hf:Instr.findNow .string (.string ky) es 0=some none:=by kernel_rfl):LG P n N R X ops k Γ w:=by
  have hr:=run_upd w (val:=val) hu hk m.obj hf;obtain ⟨p,ho⟩:=put_map (o':=.map (es.toArray.push { key:=.string ky,val:=val,born:=clk }) (clk+1)) m.obj;refine LG.store _ (cS_1 hc).1 (cS_1 hc).2 ?_ (H _ (s.pokeJ m.jk m.lo m.nb p) ⟨?_,m.jk,m.lo,m.nb⟩)
  · rw[hx];simp[hr,Result.andThen]
  · rw[ho];simp
theorem lMr (t:Nat){b:Nat}{es:List MapEntry}(mty kt et:TypeId)(ky:ByteArray)(ok:Bool)(v:Value)(found:Bool)(s:SS w0 h0 w h B Rs F)(m:MapS h b es)(H:LG P n N R X ops (k+1) ((t,if ok then .tuple #[v,.bool found] else v)::Γ) w)(hc:cL ops Γ k t n=true:=by kernel_rfl)
    (hx:execOp (ev Γ) (opAt ops k)=(do pure (.value (←Instr.lookup mty (.map (some b)) (.string ky) ok))):=by kernel_rfl)(hu:P.underlying mty=some (.map kt et):=by kernel_rfl)(hk:P.underlying kt=some .string:=by kernel_rfl)
    (hf:(∃ i,Instr.findNow .string (.string ky) es 0=some (some (i,v))∧found=true)∨(Instr.findNow .string (.string ky) es 0=some none∧found=false∧∀ w,(zeroValue et).run P w=.ok v w)):LG P n N R X ops k Γ w:=by
  obtain ⟨clk,hm⟩:=m.w s.g;refine LG.val t _ w (cL_1 hc).1 (cL_1 hc).2 ?_ H;rw[hx];have hr:=run_look w ok (v:=v) (found:=found) hu hk hm (hf.imp id fun h=>⟨h.1,h.2.1,h.2.2 w⟩)
  simp[hr,Result.andThen]
theorem SS.pubMap {b clk:Nat}{es:List MapEntry}(s:SS w0 h0 w h B [] F)(m:MapJ h0 B w h b es clk):∃ h',SS w0 h0 w h' B [] F∧MapS h' b es:=by
  have hlt:=lt_of_some m.jk;refine ⟨h.setIfInBounds b (.map es.toArray clk),⟨s.g0,⟨⟨s.st.up.ext,⟨by simp;exact s.st.up.gr.size,fun c hc=>?_⟩,⟨by simp;exact s.st.up.g.size,fun c=>?_⟩⟩,s.st.own,fun x hx=>?_,s.st.lo,s.st.nd⟩,fun _ hx=>(by cases hx),.nil,s.mo,s.f.gw s.mo ⟨by simp,fun c _=>?_⟩⟩,clk,?_⟩
  · have:=m.lo
    rw[Array.getElem?_setIfInBounds_ne oM];exact s.st.up.gr.blk c hc
  · by_cases e:b=c
    · subst e;left;rw[Array.getElem?_setIfInBounds_self_of_lt hlt];exact m.obj.symm
    · rw[Array.getElem?_setIfInBounds_ne e];exact s.st.up.g.blk c
  · rw[Array.getElem?_setIfInBounds_ne (Ne.symm (m.nb x hx))];exact s.st.jk x hx
  · by_cases e:b=c
    · subst e;exact .inr m.jk
    · left;rw[Array.getElem?_setIfInBounds_ne e]
  · rw[Array.getElem?_setIfInBounds_self_of_lt hlt]
end laws
theorem getD_kid {α:Type}{l:List α}{d x:α}{k i:Nat}(hk:k<l.length):(l.set k x).getD i d=if i=k then x else l.getD i d:=by
  rw[List.getD_eq_getElem?_getD,List.getElem?_set]
  by_cases e:k=i
  · subst e;rw[if_pos rfl,if_pos hk,if_pos rfl];rfl
  · rw[if_neg e,if_neg (fun h=>e h.symm),←List.getD_eq_getElem?_getD]
def TmsU (d:Nat)(h:Hp)(k:Nat)(ps:List PTm)(ts:List Tm):Prop:=∀ i,i<k→TmH d h (ps.getD i ptm0) (ts.getD i tm0)
theorem TmsU.gw {d:Nat}{h h':Hp}{k:Nat}{ps:List PTm}{ts:List Tm}(x:TmsU d h k ps ts)(u:Gw h h'):TmsU d h' k ps ts:=fun i hi=>(x i hi).gw u
theorem TmsU.set {d:Nat}{h:Hp}{k:Nat}{ps:List PTm}{ts:List Tm}{p:PTm}(x:TmsU d h k ps ts)(hk:k<ps.length)(y:TmH d h p (ts.getD k tm0)):TmsU d h (k+1) (ps.set k p) ts:=fun i hi=>by
  rw[getD_kid hk]
  by_cases e:i=k
  · subst e;rw[if_pos rfl];exact y
  · rw[if_neg e];exact x i oM
theorem Tms.of_u {d:Nat}{h:Hp}{k:Nat}{ps:List PTm}{ts:List Tm}(hl:ps.length=ts.length)(hk:ts.length≤k)(x:TmsU d h k ps ts):Tms d h ps ts:=⟨hl,fun i hi=>x i oM⟩
theorem sumN_mono (f:Nat→Nat){a b:Nat}(h:a≤b):sumN f a≤sumN f b:=by
  induction h with
  | refl=>exact Nat.le_refl _
  | step _ ih=>exact Nat.le_trans ih (Nat.le_add_right _ _)
def wmul (op n:Int):Nat:=if op=11 then 2 else if op=8 then timesN n else 1
theorem wmul_pos (op n:Int):1≤wmul op n:=by
  unfold wmul timesN
  split
  · omega
  · split
    · split<;>omega
    · omega
theorem wgt_0 {d:Nat}{op n:Int}{q:Rat}{s:ByteArray}{ks:List Tm}(h:ks.length=0):wgt (d+1) (.mk op n q s ks)=1:=if_pos h
theorem wgt_s {d:Nat}{op n:Int}{q:Rat}{s:ByteArray}{ks:List Tm}(h:ks.length≠0):wgt (d+1) (.mk op n q s ks)=wmul op n*sumN (fun i=>wgt d (ks.getD i tm0)) ks.length:=if_neg h
theorem wgt_ge {d:Nat}{op n:Int}{q:Rat}{s:ByteArray}{ks:List Tm}(h:ks.length≠0):sumN (fun i=>wgt d (ks.getD i tm0)) ks.length≤wgt (d+1) (.mk op n q s ks):=by
  rw[wgt_s h];exact Nat.le_mul_of_pos_left _ (wmul_pos op n)
theorem min_mul_ {m s:Nat}(h:1≤m):min (m*min s 1001) 1001=min (m*s) 1001:=by
  rcases Nat.le_total s 1001 with e|e
  · rw[Nat.min_eq_left e]
  · rw[Nat.min_eq_right e,Nat.min_eq_right (Nat.le_trans e (Nat.le_mul_of_pos_left _ h)),Nat.min_eq_right (Nat.le_mul_of_pos_left _ h)]
theorem tArity2 (op:Int)(w:World)(h:Hp)(g:G w h):CV 59 #[iV op] w h (iV (ari op)):=by
 have hs:=sS g;refine go Tryz.func59 [(0,iV op)] rfl (cSLlL hs [.v 2 (iV 0)] (lNcQ (cSLlL hs [.m 3 0] (lNkZ (cQ (cSL ?_))))));cases hb1:((op:Int) == (1:Int))
 ·
  have phb1:=neOfBeq hb1;refine lB 5 hb1 (lL hs [.m 4 5] (lNIF (kQ ?_)));cases hb2:((op:Int) == (2:Int))
  ·
   have phb2:=neOfBeq hb2;refine lB 6 hb2 (lL hs [.m 4 6] (lNIF (cQ (cSL ?_))));cases hb3:((op:Int) == (7:Int))
   ·
    have phb3:=neOfBeq hb3;refine lB 8 hb3 (lL hs [.m 7 8] (lNIF (cSL ?_)));cases hb4:((op:Int) == (8:Int))
    ·
     have phb4:=neOfBeq hb4;refine lB 9 hb4 (lL hs [.m 7 9] (lNIF (cSL ?_)));cases hb5:((op:Int) == (9:Int))
     ·
      have phb5:=neOfBeq hb5;refine lB 10 hb5 (lL hs [.m 7 10] (lNIF (cSL ?_)));cases hb6:((op:Int) == (10:Int))
      ·
       have phb6:=neOfBeq hb6;refine lB 11 hb6 (lL hs [.m 7 11] (lNIF (kQ ?_)));cases hb7:((op:Int) == (11:Int))
       ·
        have phb7:=neOfBeq hb7;refine lB 12 hb7 (lL hs [.m 7 12] (lNIF (cQ (cSL ?_))));cases hb8:((op:Int) == (3:Int))
        ·
         have phb8:=neOfBeq hb8;refine lB 14 hb8 (lL hs [.m 13 14] (lNIF (cSL ?_)));cases hb9:((op:Int) == (4:Int))
         ·
          have phb9:=neOfBeq hb9;refine lB 15 hb9 (lL hs [.m 13 15] (lNIF (cSL ?_)));cases za:((op:Int) == (5:Int))
          ·
           have ze:=neOfBeq za;refine lB 16 za (lL hs [.m 13 16] (lNIF (cSL ?_)));cases zb:((op:Int) == (6:Int))
           ·
            have zf:=neOfBeq zb;refine lB 17 zb (lL hs [.m 13 17] (lNIF (cSL ?_)));cases zc:((op:Int) == (12:Int))
            ·
             have zg:=neOfBeq zc;refine lB 18 zc (lL hs [.m 13 18] (lNIF (kQ ?_)));cases zd:((op:Int) == (13:Int))
             ·
              have zi:=neOfBeq zd;exact lB 19 zd (lL hs [.m 13 19] (lNIF (cK (cSLlL hs [.v 2 (iV (-1))] (lNkXr hs [] (iV (-1)) (congrArg (Value.int .i64) (by have:=ari_cases op;omega)))))))
             have zi:=eq_of_beq zd;exact lB 19 zd (lL hs [.m 13 19] (lNIT (cSLlL hs [.v 2 (iV 2)] (lNkXr hs [] (iV 2) (congrArg (Value.int .i64) (by have:=ari_cases op;omega))))))
            have zg:=eq_of_beq zc;exact lB 18 zc (lL hs [.m 13 18] (lNIT (cK (cIT (cSLlL hs [.v 2 (iV 2)] (lNkXr hs [] (iV 2) (congrArg (Value.int .i64) (by have:=ari_cases op;omega))))))))
           have zf:=eq_of_beq zb;exact lB 17 zb (lL hs [.m 13 17] (lNIT (cK (cIT (cSLlL hs [.v 2 (iV 2)] (lNkXr hs [] (iV 2) (congrArg (Value.int .i64) (by have:=ari_cases op;omega))))))))
          have ze:=eq_of_beq za;exact lB 16 za (lL hs [.m 13 16] (lNIT (cK (cIT (cSLlL hs [.v 2 (iV 2)] (lNkXr hs [] (iV 2) (congrArg (Value.int .i64) (by have:=ari_cases op;omega))))))))
         have phb9:=eq_of_beq hb9;exact lB 15 hb9 (lL hs [.m 13 15] (lNIT (cK (cIT (cSLlL hs [.v 2 (iV 2)] (lNkXr hs [] (iV 2) (congrArg (Value.int .i64) (by have:=ari_cases op;omega))))))))
        have phb8:=eq_of_beq hb8;exact lB 14 hb8 (lL hs [.m 13 14] (lNIT (cK (cIT (cSLlL hs [.v 2 (iV 2)] (lNkXr hs [] (iV 2) (congrArg (Value.int .i64) (by have:=ari_cases op;omega))))))))
       have phb7:=eq_of_beq hb7;exact lB 12 hb7 (lL hs [.m 7 12] (lNIT (cSLlL hs [.v 2 (iV 1)] (lNkXr hs [] (iV 1) (congrArg (Value.int .i64) (by have:=ari_cases op;omega))))))
      have phb6:=eq_of_beq hb6;exact lB 11 hb6 (lL hs [.m 7 11] (lNIT (cK (cIT (cSLlL hs [.v 2 (iV 1)] (lNkXr hs [] (iV 1) (congrArg (Value.int .i64) (by have:=ari_cases op;omega))))))))
     have phb5:=eq_of_beq hb5;exact lB 10 hb5 (lL hs [.m 7 10] (lNIT (cK (cIT (cSLlL hs [.v 2 (iV 1)] (lNkXr hs [] (iV 1) (congrArg (Value.int .i64) (by have:=ari_cases op;omega))))))))
    have phb4:=eq_of_beq hb4;exact lB 9 hb4 (lL hs [.m 7 9] (lNIT (cK (cIT (cSLlL hs [.v 2 (iV 1)] (lNkXr hs [] (iV 1) (congrArg (Value.int .i64) (by have:=ari_cases op;omega))))))))
   have phb3:=eq_of_beq hb3;exact lB 8 hb3 (lL hs [.m 7 8] (lNIT (cK (cIT (cSLlL hs [.v 2 (iV 1)] (lNkXr hs [] (iV 1) (congrArg (Value.int .i64) (by have:=ari_cases op;omega))))))))
  have phb2:=eq_of_beq hb2;exact lB 6 hb2 (lL hs [.m 4 6] (lNIT (cSLlL hs [.v 2 (iV 0)] (lNkXr hs [] (iV 0) (congrArg (Value.int .i64) (by have:=ari_cases op;omega))))))
 have phb1:=eq_of_beq hb1;exact lB 5 hb1 (lL hs [.m 4 5] (lNIT (cK (cIT (cSLlL hs [.v 2 (iV 0)] (lNkXr hs [] (iV 0) (congrArg (Value.int .i64) (by have:=ari_cases op;omega))))))))
theorem tTimes (n:Int)(h0 : -12≤n)(h1:n≤12)(w:World)(h:Hp)(g:G w h):CV 62 #[iV n] w h (nV (timesN n)):=by
 have hs:=sS g;refine go Tryz.func62 [(0,iV n)] rfl (cSLlL hs [.v 2 (iV 0)] (lNcQ (cSLlL hs [.m 3 0] ?_)));cases hb1:(decide ((n:Int)≤(-1073741824:Int)))
 ·
  have phb1:=oF hb1;refine lB 4 hb1 (lL hs [.m 5 4,.m 6 0] ?_);cases hb2:(decide ((1073741824:Int)≤(n:Int)))
  ·
   have phb2:=oF hb2;refine lB 7 hb2 (lL hs [.v 8 qF] (lNIF (cK (cSLlL hs [.m 9 0,.m 10 0] (lI 11 (0-n) ?_)))));refine lV 12 (iV (max (max (n:Int) (0-n:Int)) (1:Int))) ?_ (hr:=rint (n:=(if (1:Int)>(if (0-n:Int)>(n:Int) then (0-n:Int) else (n:Int)) then (1:Int) else (if (0-n:Int)>(n:Int) then (0-n:Int) else (n:Int)))) kR (by simp only[imax2]));exact lL hs [.m 2 12] (lNkXr hs [] (iV (max (max (n:Int) (0-n:Int)) (1:Int))) (congrArg (Value.int .i64) (by unfold timesN;(repeat' split)<;>omega)))
  have phb2:=oT hb2;exact lB 7 hb2 (lL hs [.v 8 qT] (lNIT (cSLlL hs [.v 2 (iV 1073741824)] (lNkXr hs [] (iV 1073741824) (congrArg (Value.int .i64) (by unfold timesN;(repeat' split)<;>omega))))))
 have phb1:=oT hb1;refine lB 4 hb1 (lL hs [.m 5 4] (lG 6 ?_));exact lG 7 (lL hs [.v 8 qT] (lNIT (cSLlL hs [.v 2 (iV 1073741824)] (lNkXr hs [] (iV 1073741824) (congrArg (Value.int .i64) (by unfold timesN;(repeat' split)<;>omega))))))
theorem tDeeperS  (sm:ByteArray→Prop)(d:Nat)(ih:∀ (p:PTm) (t:Tm) (most:Int) (w:World) (h:Hp),G w h→TmH d h p t→SmT sm d t→(d:Int)≤most→most≤1000→Calls Tryz.prog 30 #[ptv p,iV most] w (Ret w h (fun v _=>v=.bool false)))(op n:Int)(q:Rat)(s:ByteArray)(A:Option Addr)(c:Nat)(ps:List PTm)(ks:List Tm)(hc:ps.length≤c)(hlp:ps.length≤3)(hk3:ks.length≤3)(hop : -1000≤op∧op≤1000)(hn : -1000≤n∧n≤1000)(hq:LQ 1 q)(hsm:sm s)(hW:∀ i,i<ks.length→SmT sm d (ks.getD i tm0))(most:Int)(hm:((d+1:Nat):Int)≤most)(hm2:most≤1000)(w:World)(h:Hp)(g:G w h)(hK:SlO 9 ptc ptm0 h A ps)(hKs:Tms d h ps ks):CV 30 #[pW op n q s A ps.length c,iV most] w h (.bool false):=by
 have hs:=(((sS g).aS hK).add (K:=fun h_=>Tms d h_ ps ks) hKs);have hln:=(hs.f.1).len;refine go Tryz.func30 [(0,pW op n q s A ps.length c),(1,iV most)] rfl (cSL (lA 2 43 (pG op n q s A ps.length c) hs (fun b1 w2 h3 hs=>lL hs [.v 4 qF] (lNcQ (cSLlL hs [.m 7 1] ?_)))));cases hb4:(decide ((most:Int)<(1:Int)))
 ·
  have phb4:=oF hb4;refine lB 8 hb4 (lNIF (cK (cQ (cSLlL hs [.v 9 (qP b1 8),.o 10 (qS A ps.length c) 0 8 1,.v 11 (nV ps.length),.v 12 (iV 0)] (lNkZ ?_)))));refine cTo _ (CG.loop (fun μ_ Γ w_=>∃ (k:Nat) (h_:Hp),μ_=ps.length-k∧Γ=[(1,iV most),(10,qS A ps.length c),(11,nV ps.length),(12,nV k)]∧SS w h w_ h_ [⟨b1,43,pG op n q s A ps.length c⟩] [] [fun h_=>Tms d h_ ps ks,fun h_=>SlO 9 ptc ptm0 h_ A ps]∧k≤ps.length) _ ⟨0,h3,rfl,rfl,hs.to _ _,Nat.zero_le _⟩ ?_);rintro _ _ w5 ⟨k,h6,hm7,rfl,hs,hk⟩;refine cSL ?_;cases hb8:(decide ((k:Int)<(ps.length:Int)))
  ·
   have phb8:=oF hb8;refine lB 13 hb8 (lNcQ (cIF (CG.exit ?_)))
   show CG _ _ _ _ _ _ _ _
   exact cSLlL hs [.v 4 qF] (lNkXr hs [] qF rfl)
  have phb8:=oT hb8;refine lB 13 hb8 (lNcQ (cIT (cK (cQ (kZ (cSL (lX 14 A ps.length c 9 (k:Nat) k ((hs.f.2.1).ok oM) ?_)))))));refine lH 15 (pX (ps.getD k ptm0)) hs ((hs.f.2.1).el k oM) (lA 6 43 ([iV 0,iV 0,qF,uV 0,eS,uV 0,eS,eS,sZ]) hs (fun b9 _ _ hs=>lP 0 0 (pC (ps.getD k ptm0)) hs (fun _ hs=>lNS (lL hs [.o 16 (pX (ps.getD k ptm0)) 0 0 9,.m 17 1] (lI 18 (most-1) ?_)))));refine lCval 19 hs (ih (ps.getD k ptm0) (ks.getD k tm0) (most-1) _ _ hs.g ((hs.f.1).at_ k oM) (hW k oM) oM oM) (fun _ za hs=>lNIF (cK (kQ (lIn 20 ((k:Nat)+1) (k+1) ?_))));refine lL hs [.m 12 20] (lD ?_);intro a_ ka;replace hs:=hs.drop 1 0;refine ⟨_,_,?_,⟨k+1,za,rfl,rfl,hs.to _ _,oM⟩,ka.to _ kR⟩
  omega
 have phb4:=oT hb4;refine lB 8 hb4 (lNIT (cSLlL hs [.v 4 qT] (lN (kX ?_))))
 exfalso;omega
theorem tDeeper (sm:ByteArray→Prop):∀ (d:Nat) (p:PTm) (t:Tm) (most:Int) (w:World) (h:Hp),G w h→TmH d h p t→SmT sm d t→(d:Int)≤most→most≤1000→Calls Tryz.prog 30 #[ptv p,iV most] w (Ret w h (fun v _=>v=.bool false))
  | 0,_,_,_,_,_,_,x,_,_,_=>x.elim
  | d+1,p,t,most,w,h,g,x,wf,hm,hm2=>by
    obtain ⟨op,n,q,s,A,c,ps,ks,rfl,rfl,hc,hK,hKs⟩:=x.open;obtain ⟨s1,s2,s3,s4,s5,s6⟩:=wf;have s1_:ks.length≤3:=s1;exact tDeeperS sm d (fun p t most w h=>tDeeper sm d p t most w h) op n q s A c ps ks hc (by have:=hKs.len;omega) s1 s2 s3 s4 s5 s6 most hm hm2 w h g hK hKs
theorem tFormedS  (isb:ByteArray→Bool)(sm:ByteArray→Prop)(hIs:∀ s,sm s→∀ (w:World) (h:Hp),G w h→Calls Tryz.prog 61 #[.string s] w (Ret w h (fun v _=>∃ b,v=.bool b∧b=isb s)))(d:Nat)(ih:∀ (p:PTm) (t:Tm) (w:World) (h:Hp),G w h→TmH d h p t→SmT sm d t →  Calls Tryz.prog 31 #[ptv p] w (Ret w h (fun v _=>∃ bb,v=.bool bb∧(bb=true↔WfT (fun s=>isb s=true) d t))))(op n:Int)(q:Rat)(s:ByteArray)(A:Option Addr)(c:Nat)(ps:List PTm)(ks:List Tm)(hc:ps.length≤c)(hlp:ps.length≤3)(hk3:ks.length≤3)(hop : -1000≤op∧op≤1000)(hn : -1000≤n∧n≤1000)(hq:LQ 1 q)(hsm:sm s)(hW:∀ i,i<ks.length→SmT sm d (ks.getD i tm0))(w:World)(h:Hp)(g:G w h)(hK:SlO 9 ptc ptm0 h A ps)(hKs:Tms d h ps ks):CR 31 #[pW op n q s A ps.length c] w h (fun v _=>∃ bb,v=.bool bb∧(bb=true↔WfT (fun s=>isb s=true) (d+1) (.mk op n q s ks))):=by
 have hs:=(((sS g).aS hK).add (K:=fun h_=>Tms d h_ ps ks) hKs);have hln:=(hs.f.1).len;have hsg:q.num.sign=0↔q.num=0:=Int.sign_eq_zero_iff_zero;refine go Tryz.func31 [(0,pW op n q s A ps.length c)] rfl (cSL (lA 1 43 (pG op n q s A ps.length c) hs (fun b1 w2 h3 hs=>lL hs [.v 2 qF] (lNcQ (cQ (cR 7 [] mixed hs al_nil ?_))))));refine eV 0 5 (pB b1) (eO 1 6 [(0,0,1)] (iV op) hs (eV 3 8 (qP b1 8) (eO 4 9 [(0,8,1)] (qS A ps.length c) hs (eV 5 10 (nV ps.length) (eCval 2 7 hs (fun _ _ hs=>tArity2 op _ _ hs.g) (fun w4 h5 hs=>?_))))));cases hb6:((ari op:Int) != (ps.length:Int))
 ·
  have phb6:=eqOfBne hb6;refine eB 6 11 hb6 (eD0 hs (fun w7 h8 hs=>?_));refine tN (cIF (cK (cQ (CG.join (fun Γ w_=>∃ (zm:Bool) (h_:Hp),Γ=[(1,pB b1),(2,qF),(20,.bool zm)]∧SS w h w_ h_ [⟨b1,43,pG op n q s A ps.length c⟩] [] [fun h_=>Tms d h_ ps ks,fun h_=>SlO 9 ptc ptm0 h_ A ps]∧(zm=true→¬(op=1∨q.num=0))∧(zm=false→(op=1∨q.num=0))) ?_ ?_))))
  ·
   refine kQ (lL hs [.v 12 (pB b1),.o 13 (iV op) 0 0 1] ?_);cases hb9:((op:Int) != (1:Int))
   ·
    have phb9:=eqOfBne hb9;refine lB 14 hb9 (lL hs [.m 15 14] (lG 16 ?_));refine lG 17 (lG 18 (lG 19 (lL hs [.v 20 qF] (lD ?_))));intro a_ ka;exact ⟨_,⟨false,h8,rfl,hs.to _ _,(fun h_=>absurd h_ kD),(fun _=>by omega)⟩,ka.to _ kR⟩
   have phb9:=neOfBne hb9;refine lB 14 hb9 (lL hs [.m 15 14,.v 16 (qP b1 2),.o 17 (qv q) 0 2 5] (lCval 18 hs (fSign q (hq.mono oM) _ _ hs.g) (fun _ zD hs=>?_)));cases za:((q.num.sign:Int) != (0:Int))
   ·
    have zs:=eqOfBne za;refine lB 19 za (lL hs [.v 20 qF] (lD ?_));intro a_ ka;exact ⟨_,⟨false,zD,rfl,hs.to _ _,(fun h_=>absurd h_ kD),(fun _=>by omega)⟩,ka.to _ kR⟩
   have zs:=neOfBne za;refine lB 19 za (lL hs [.v 20 qT] (lD ?_));intro a_ ka;exact ⟨_,⟨true,zD,rfl,hs.to _ _,(fun _=>by omega),(fun h_=>absurd h_ kD)⟩,ka.to _ kR⟩
  rintro _ _ ⟨zm,zE,rfl,hs,zH,hF20⟩;cases zb:(zm)
  ·
   try rw[zb] at hs
   try rw[zb]
   refine cIF (cK (cQ (CG.join (fun Γ w_=>∃ (zn:Bool) (h_:Hp),Γ=[(1,pB b1),(2,qF),(39,.bool zn)]∧SS w h w_ h_ [⟨b1,43,pG op n q s A ps.length c⟩] [] [fun h_=>Tms d h_ ps ks,fun h_=>SlO 9 ptc ptm0 h_ A ps]∧(zn=true→¬((op=2→isb s=true)∧(op≠2→s=⟨#[]⟩)))∧(zn=false→((op=2→isb s=true)∧(op≠2→s=⟨#[]⟩)))) ?_ ?_)))
   ·
    refine kQ (lL hs [.v 21 (pB b1),.o 22 (iV op) 0 0 1] ?_);cases zc:((op:Int) == (2:Int))
    ·
     have zt:=neOfBeq zc;refine lB 23 zc (lL hs [.m 24 23] (lG 25 ?_));refine lG 26 (lG 27 (lG 28 (lL hs [.v 29 qF,.m 30 29,.v 31 (pB b1),.o 32 (iV op) 0 0 1] ?_)));have zq:((op:Int) != (2:Int))=true:=bneT oM;have phb23:=neOfBne zq;refine lB 33 zq (lL hs [.m 34 33,.v 35 (qP b1 7),.o 36 (.string s) 0 7 1] ?_);cases zd:(strQn s (⟨#[]⟩))
     ·
      have zu:=strQn_f zd;refine lB 37 zd (lL hs [.v 38 qF,.v 39 qF] (lD ?_));intro a_ ka;exact ⟨_,⟨false,zE,rfl,hs.to _ _,(fun h_=>absurd h_ kD),(fun _=>⟨fun h_=>by first|exact hbi.symm.trans aM|exact absurd h_ oM,fun h_=>by first|assumption|exact absurd h_ oM⟩)⟩,ka.to _ kR⟩
     have zu:=strQn_t zd;refine lB 37 zd (lL hs [.v 38 qT,.v 39 qT] (lD ?_));intro a_ ka;exact ⟨_,⟨true,zE,rfl,hs.to _ _,(fun _ h_=>by first|exact Bool.noConfusion ((h_.1 oM).symm.trans (hbi.symm.trans aM))|exact absurd (h_.2 oM) aM),(fun h_=>absurd h_ kD)⟩,ka.to _ kR⟩
    have zt:=eq_of_beq zc;refine lB 23 zc (lL hs [.m 24 23,.v 25 (qP b1 7),.o 26 (.string s) 0 7 1] (lC 27 hs (hIs s hsm _ _ hs.g) ?_));rintro _ _ zG hs ⟨bi,rfl,hbi⟩;cases hb31:(bi)
    ·
     refine lL hs [.v 28 qT,.v 29 qT,.m 30 29] (lG 31 ?_);refine lG 32 (lG 33 (lG 34 (lG 35 (lG 36 (lG 37 (lG 38 (lL hs [.v 39 qT] (lD ?_))))))));intro a_ ka;exact ⟨_,⟨true,zG,rfl,hs.to _ _,(fun _ h_=>by first|exact Bool.noConfusion ((h_.1 oM).symm.trans (hbi.symm.trans aM))|exact absurd (h_.2 oM) aM),(fun h_=>absurd h_ kD)⟩,ka.to _ kR⟩
    refine lL hs [.v 28 qF,.v 29 qF,.m 30 29,.v 31 (pB b1),.o 32 (iV op) 0 0 1] ?_;have zr:((op:Int) != (2:Int))=false:=bneF oM;have phb34:=eqOfBne zr;refine lB 33 zr (lL hs [.m 34 33] (lG 35 ?_));refine lG 36 (lG 37 (lL hs [.v 38 qF,.v 39 qF] (lD ?_)));intro a_ ka;exact ⟨_,⟨false,zG,rfl,hs.to _ _,(fun h_=>absurd h_ kD),(fun _=>⟨fun h_=>by first|exact hbi.symm.trans aM|exact absurd h_ oM,fun h_=>by first|assumption|exact absurd h_ oM⟩)⟩,ka.to _ kR⟩
   rintro _ _ ⟨zn,zo,rfl,hs,zI,hF39⟩;cases ze:(zn)
   ·
    try rw[ze] at hs
    try rw[ze]
    refine cIF (cK (cQ (CG.join (fun Γ w_=>∃ (zp:Bool) (h_:Hp),Γ=[(1,pB b1),(2,qF),(57,.bool zp)]∧SS w h w_ h_ [⟨b1,43,pG op n q s A ps.length c⟩] [] [fun h_=>Tms d h_ ps ks,fun h_=>SlO 9 ptc ptm0 h_ A ps]∧(zp=true→¬((op=8∨n=0) ∧ -12≤n∧n≤12))∧(zp=false→((op=8∨n=0) ∧ -12≤n∧n≤12))) ?_ ?_)))
    ·
     refine kQ (lL hs [.v 40 (pB b1),.o 41 (iV op) 0 0 1] ?_);cases zf:((op:Int) != (8:Int))
     ·
      have zv:=eqOfBne zf;refine lB 42 zf (lL hs [.m 43 42] (lG 44 ?_));refine lG 45 (lG 46 (lL hs [.v 47 qF,.m 48 47,.v 49 (qP b1 1),.o 50 (iV n) 0 1 1] ?_));cases zg:(decide ((n:Int)<(-12:Int)))
      ·
       have zw:=oF zg;refine lB 51 zg (lL hs [.v 52 qF,.m 53 52,.v 54 (qP b1 1),.o 55 (iV n) 0 1 1] ?_);cases zi:(decide ((12:Int)<(n:Int)))
       ·
        have zx:=oF zi;refine lB 56 zi (lL hs [.v 57 qF] (lD ?_));intro a_ ka;exact ⟨_,⟨false,zo,rfl,hs.to _ _,(fun h_=>absurd h_ kD),(fun _=>by omega)⟩,ka.to _ kR⟩
       have zx:=oT zi;refine lB 56 zi (lL hs [.v 57 qT] (lD ?_));intro a_ ka;exact ⟨_,⟨true,zo,rfl,hs.to _ _,(fun _=>by omega),(fun h_=>absurd h_ kD)⟩,ka.to _ kR⟩
      have zw:=oT zg;refine lB 51 zg (lL hs [.v 52 qT,.m 53 52] (lG 54 ?_));refine lG 55 (lG 56 (lL hs [.v 57 qT] (lD ?_)));intro a_ ka;exact ⟨_,⟨true,zo,rfl,hs.to _ _,(fun _=>by omega),(fun h_=>absurd h_ kD)⟩,ka.to _ kR⟩
     have zv:=neOfBne zf;refine lB 42 zf (lL hs [.m 43 42,.v 44 (qP b1 1),.o 45 (iV n) 0 1 1] ?_);cases zj:((n:Int) != (0:Int))
     ·
      have zA:=eqOfBne zj;refine lB 46 zj (lL hs [.v 47 qF,.m 48 47,.v 49 (qP b1 1),.o 50 (iV n) 0 1 1] ?_);have ⟨zJ,phb50⟩:=dF (p:=(n:Int)<(-12:Int)) oM;refine lB 51 zJ (lL hs [.v 52 qF,.m 53 52,.v 54 (qP b1 1),.o 55 (iV n) 0 1 1] ?_);have ⟨zK,phb51⟩:=dF (p:=(12:Int)<(n:Int)) oM;refine lB 56 zK (lL hs [.v 57 qF] (lD ?_));intro a_ ka;exact ⟨_,⟨false,zo,rfl,hs.to _ _,(fun h_=>absurd h_ kD),(fun _=>by omega)⟩,ka.to _ kR⟩
     have zA:=neOfBne zj;refine lB 46 zj (lL hs [.v 47 qT,.m 48 47] (lG 49 ?_));refine lG 50 (lG 51 (lL hs [.v 52 qT,.m 53 52] (lG 54 ?_)));refine lG 55 (lG 56 (lL hs [.v 57 qT] (lD ?_)));intro a_ ka;exact ⟨_,⟨true,zo,rfl,hs.to _ _,(fun _=>by omega),(fun h_=>absurd h_ kD)⟩,ka.to _ kR⟩
    rintro _ _ ⟨zp,zM,rfl,hs,zL,hF57⟩;cases zk:(zp)
    ·
     try rw[zk] at hs
     try rw[zk]
     refine cIF (cK (cQ (cSLlL hs [.v 58 (qP b1 8),.o 59 (qS A ps.length c) 0 8 1,.v 60 (nV ps.length),.v 61 (iV 0)] (lNkZ ?_))));refine cTo _ (CG.loop (fun μ_ Γ w_=>∃ (k:Nat) (h_:Hp),μ_=ps.length-k∧Γ=[(59,qS A ps.length c),(60,nV ps.length),(61,nV k)]∧SS w h w_ h_ [⟨b1,43,pG op n q s A ps.length c⟩] [] [fun h_=>Tms d h_ ps ks,fun h_=>SlO 9 ptc ptm0 h_ A ps]∧k≤ps.length∧(∀ i,i<k→WfT (fun s=>isb s=true) d (ks.getD i tm0))) _ ⟨0,zM,rfl,rfl,hs.to _ _,Nat.zero_le _,(fun i hi=>absurd hi (Nat.not_lt_zero i))⟩ ?_);rintro _ _ _ ⟨k,_,hm61,rfl,hs,hk,hWk⟩;refine cSL ?_;cases zl:(decide ((k:Int)<(ps.length:Int)))
     ·
      have zB:=oF zl;refine lB 62 zl (lNcQ (cIF (CG.exit ?_)))
      show CG _ _ _ _ _ _ _ _
      exact cSLlL hs [.v 2 qT] (lNkXr hs [] qT (wf_tt ⟨by omega,hF20 aM,hF39 aM,hF57 aM⟩ hq (fun i hi=>hWk i oM)))
     have zB:=oT zl;refine lB 62 zl (lNcQ (cIT (cK (cQ (kZ (cSL (lX 63 A ps.length c 9 (k:Nat) k ((hs.f.2.1).ok oM) ?_)))))));refine lH 64 (pX (ps.getD k ptm0)) hs ((hs.f.2.1).el k oM) (lA 4 43 ([iV 0,iV 0,qF,uV 0,eS,uV 0,eS,eS,sZ]) hs (fun b63 _ _ hs=>lP 0 0 (pC (ps.getD k ptm0)) hs (fun _ hs=>lNS (lL hs [.o 65 (pX (ps.getD k ptm0)) 0 0 9] (lC 66 hs (ih (ps.getD k ptm0) (ks.getD k tm0) _ _ hs.g ((hs.f.1).at_ k oM) (hW k oM)) ?_)))));rintro _ _ zN hs ⟨bk,rfl,hbk⟩;cases hb69:(bk)
     ·
      exact lL hs [.v 67 qT] (lNIT (cSLlL hs [.v 2 qF] (lNkXr hs [] qF (wf_fk (k:=k) oM aM hbk))))
     refine lL hs [.v 67 qF] (lNIF (cK (kQ (lIn 68 ((k:Nat)+1) (k+1) ?_))));refine lL hs [.m 61 68] (lD ?_);intro a_ ka;replace hs:=hs.drop 1 0;refine ⟨_,_,?_,⟨k+1,zN,rfl,rfl,hs.to _ _,oM,(fun i hi=>by rcases Nat.lt_succ_iff_lt_or_eq.1 hi with h_|rfl;exact hWk i h_;exact hbk.1 aM)⟩,ka.to _ kR⟩
     omega
    try rw[zk] at hs
    try rw[zk]
    exact cIT (cSLlL hs [.v 2 qF] (lNkXr hs [] qF (wf_ff (fun h_=>zL aM h_.2.2.2))))
   try rw[ze] at hs
   try rw[ze]
   exact cIT (cSLlL hs [.v 2 qF] (lNkXr hs [] qF (wf_ff (fun h_=>zI aM h_.2.2.1))))
  try rw[zb] at hs
  try rw[zb]
  exact cIT (cSLlL hs [.v 2 qF] (lNkXr hs [] qF (wf_ff (fun h_=>zH aM h_.2.1))))
 have phb6:=neOfBne hb6;exact eB 6 11 hb6 (eD0 hs (fun _ _ hs=>tN (cIT (cSLlL hs [.v 2 qF] (lNkXr hs [] qF (wf_ff (fun h_=>absurd h_.1 oM)))))))
theorem tFormedT (isb:ByteArray→Bool)(sm:ByteArray→Prop)(hIs:∀ s,sm s→∀ (w:World) (h:Hp),G w h→Calls Tryz.prog 61 #[.string s] w (Ret w h (fun v _=>∃ b,v=.bool b∧b=isb s))):∀ (d:Nat) (p:PTm) (t:Tm) (w:World) (h:Hp),G w h→TmH d h p t→SmT sm d t →  Calls Tryz.prog 31 #[ptv p] w (Ret w h (fun v _=>∃ bb,v=.bool bb∧(bb=true↔WfT (fun s=>isb s=true) d t)))
  | 0,_,_,_,_,_,x,_=>x.elim
  | d+1,p,t,w,h,g,x,wf=>by
    obtain ⟨op,n,q,s,A,c,ps,ks,rfl,rfl,hc,hK,hKs⟩:=x.open;obtain ⟨s1,s2,s3,s4,s5,s6⟩:=wf;have s1_:ks.length≤3:=s1;exact tFormedS isb sm hIs d (fun p t w h=>tFormedT isb sm hIs d p t w h) op n q s A c ps ks hc (by have:=hKs.len;omega) s1 s2 s3 s4 s5 s6 w h g hK hKs
theorem tWeightS  (ok:ByteArray→Prop)(d:Nat)(ih:∀ (p:PTm) (t:Tm) (w:World) (h:Hp),G w h→TmH d h p t→WfT ok d t →  Calls Tryz.prog 32 #[ptv p,iV 1001] w (Ret w h (fun v _=>v=iV ((min (wgt d t) 1001:Nat):Int))))(op n:Int)(q:Rat)(s:ByteArray)(A:Option Addr)(c:Nat)(ps:List PTm)(ks:List Tm)(hc:ps.length≤c)(hlp:ps.length≤2)(hari:ari op=(ks.length:Nat))(hq0:op≠1→q=0)(hq:LQ 1 q)(hok:op=2→ok s)(hs0:op≠2→s=⟨#[]⟩)(hn0:op≠8→n=0)(hn1 : -12≤n)(hn2:n≤12)(hW:∀ i,i<ks.length→WfT ok d (ks.getD i tm0))(w:World)(h:Hp)(g:G w h)(hK:SlO 9 ptc ptm0 h A ps)(hKs:Tms d h ps ks):CV 32 #[pW op n q s A ps.length c,iV 1001] w h (iV ((min (wgt (d+1) (.mk op n q s ks)) 1001:Nat):Int)):=by
 have hs:=(((sS g).aS hK).add (K:=fun h_=>Tms d h_ ps ks) hKs);have hln:=(hs.f.1).len;refine go Tryz.func32 [(0,pW op n q s A ps.length c),(1,iV 1001)] rfl (cSL (lA 2 43 (pG op n q s A ps.length c) hs (fun b1 w2 h3 hs=>lL hs [.v 4 (iV 0)] (lNcQ (cSLlL hs [.v 8 (qP b1 8),.o 9 (qS A ps.length c) 0 8 1,.v 10 (nV ps.length)] ?_)))));cases hb4:((ps.length:Int) == (0:Int))
 ·
  have phb4:=neOfBeq hb4;refine lB 11 hb4 (lNIF (cK (cSLlL hs [.v 5 (iV 0)] (lNcQ (cSLlL hs [.v 14 (qP b1 8),.o 15 (qS A ps.length c) 0 8 1,.v 16 (nV ps.length),.v 17 (iV 0)] (lNkZ ?_))))));refine cTo _ (CG.loop (fun μ_ Γ w_=>∃ (k:Nat) (sm:Nat) (h_:Hp),μ_=ps.length-k∧Γ=[(1,iV 1001),(2,pB b1),(15,qS A ps.length c),(16,nV ps.length),(17,nV k),(5,nV sm)]∧SS w h w_ h_ [⟨b1,43,pG op n q s A ps.length c⟩] [] [fun h_=>Tms d h_ ps ks,fun h_=>SlO 9 ptc ptm0 h_ A ps]∧k≤ps.length∧sm=min (sumN (fun i=>wgt d (ks.getD i tm0)) k) 1001) _ ⟨0,0,h3,rfl,rfl,hs.to _ _,Nat.zero_le _,rfl⟩ ?_);rintro _ _ w5 ⟨k,sm,h6,hm7,rfl,hs,hk,hsm⟩;have hs1:(sumN (fun i=>wgt d (ks.getD i tm0)) (k+1))=(sumN (fun i=>wgt d (ks.getD i tm0)) k)+wgt d (ks.getD k tm0):=rfl;refine cSL ?_;cases hb8:(decide ((k:Int)<(ps.length:Int)))
  ·
   have phb8:=oF hb8;refine lB 18 hb8 (lNcQ (cIF (CG.exit ?_)))
   show CG _ _ _ _ _ _ _ _
   refine cQ (cSLlL hs [.v 33 (pB b1),.o 34 (iV op) 0 0 1] (lNkZ (cSL ?_)));cases hb9:((op:Int) == (11:Int))
   ·
    have phb9:=neOfBeq hb9;refine lB 36 hb9 (lL hs [.m 35 36] (lNIF (cSL ?_)));cases za:((op:Int) == (8:Int))
    ·
     have zc:=neOfBeq za;refine lB 40 za (lL hs [.m 39 40] (lNIF (cK (cSLlL hs [.m 46 5,.m 47 1] (lV 48 (iV (min (sm:Int) (1001:Int))) ?_ (hr:=rint (n:=(if (1001:Int)<(sm:Int) then (1001:Int) else (sm:Int))) kR (by simp only[imin2])))))));refine lL hs [.m 4 48] (lN (kX ?_));have hkn:k=ks.length:=by omega
     have hw_:=wgt_s (d:=d) (op:=op) (n:=n) (q:=q) (s:=s) (ks:=ks) oM;have hm_:=min_mul_ (s:=(sumN (fun i=>wgt d (ks.getD i tm0)) k)) (wmul_pos op n);rw[←hkn] at hw_
     rw[←hw_,←hsm] at hm_
     exact hs.ret [] (iV (min (sm:Int) (1001:Int))) (congrArg (Value.int .i64) (by rw[←hm_];unfold wmul;first|(rw[if_pos oM];(repeat' split)<;>omega)|(rw[if_neg oM,if_pos oM,Nat.mul_comm];(repeat' split)<;>omega)|(rw[if_neg oM,if_neg oM];(repeat' split)<;>omega)))
    have zc:=eq_of_beq za;refine lB 40 za (lL hs [.m 39 40] (lNIT (kQ (lL hs [.m 41 5,.v 42 (qP b1 1),.o 43 (iV n) 0 1 1] (lCval 44 hs (tTimes n oM oM _ _ hs.g) (fun _ _ hs=>?_))))));have htm:timesN n≤12∧1≤timesN n:=by unfold timesN;split<;>omega
    have hmb:sm*timesN n≤1001*12:=Nat.mul_le_mul oM oM;refine lI 45 ((sm:Nat)*(timesN n:Nat)) (lL hs [.m 5 45] (lNS (lL hs [.m 46 5,.m 47 1] (lV 48 (iV (min ((sm:Nat)*(timesN n:Nat):Int) (1001:Int))) ?_ (hr:=rint (n:=(if (1001:Int)<((sm:Nat)*(timesN n:Nat):Int) then (1001:Int) else ((sm:Nat)*(timesN n:Nat):Int))) kR (by simp only[imin2]))))));refine lL hs [.m 4 48] (lN (kX ?_));have hkn:k=ks.length:=by omega
    have hw_:=wgt_s (d:=d) (op:=op) (n:=n) (q:=q) (s:=s) (ks:=ks) oM;have hm_:=min_mul_ (s:=(sumN (fun i=>wgt d (ks.getD i tm0)) k)) (wmul_pos op n);rw[←hkn] at hw_
    rw[←hw_,←hsm] at hm_
    exact hs.ret [] (iV (min ((sm:Nat)*(timesN n:Nat):Int) (1001:Int))) (congrArg (Value.int .i64) (by rw[←hm_];unfold wmul;first|(rw[if_pos oM];(repeat' split)<;>omega)|(rw[if_neg oM,if_pos oM,Nat.mul_comm];(repeat' split)<;>omega)|(rw[if_neg oM,if_neg oM];(repeat' split)<;>omega)))
   have phb9:=eq_of_beq hb9;refine lB 36 hb9 (lL hs [.m 35 36] (lNIT (kQ (lL hs [.m 37 5] (lI 38 ((sm:Nat)*2) ?_)))));refine lL hs [.m 5 38] (lNS (lL hs [.m 46 5,.m 47 1] (lV 48 (iV (min ((sm:Nat)*2:Int) (1001:Int))) ?_ (hr:=rint (n:=(if (1001:Int)<((sm:Nat)*2:Int) then (1001:Int) else ((sm:Nat)*2:Int))) kR (by simp only[imin2])))));refine lL hs [.m 4 48] (lN (kX ?_));have hkn:k=ks.length:=by omega
   have hw_:=wgt_s (d:=d) (op:=op) (n:=n) (q:=q) (s:=s) (ks:=ks) oM;have hm_:=min_mul_ (s:=(sumN (fun i=>wgt d (ks.getD i tm0)) k)) (wmul_pos op n);rw[←hkn] at hw_
   rw[←hw_,←hsm] at hm_
   exact hs.ret [] (iV (min ((sm:Nat)*2:Int) (1001:Int))) (congrArg (Value.int .i64) (by rw[←hm_];unfold wmul;first|(rw[if_pos oM];(repeat' split)<;>omega)|(rw[if_neg oM,if_pos oM,Nat.mul_comm];(repeat' split)<;>omega)|(rw[if_neg oM,if_neg oM];(repeat' split)<;>omega)))
  have phb8:=oT hb8;refine lB 18 hb8 (lNcQ (cIT (cK (cQ (kZ (cSL (lX 19 A ps.length c 9 (k:Nat) k ((hs.f.2.1).ok oM) ?_)))))));refine lH 20 (pX (ps.getD k ptm0)) hs ((hs.f.2.1).el k oM) (lA 7 43 ([iV 0,iV 0,qF,uV 0,eS,uV 0,eS,eS,sZ]) hs (fun b13 _ _ hs=>lP 0 0 (pC (ps.getD k ptm0)) hs (fun _ hs=>lNS (lL hs [.m 21 5,.o 22 (pX (ps.getD k ptm0)) 0 0 9,.m 23 1] (lCval 24 hs (ih (ps.getD k ptm0) (ks.getD k tm0) _ _ hs.g ((hs.f.1).at_ k oM) (hW k oM)) (fun _ ze hs=>lI 25 ((sm:Nat)+((min (wgt d (ks.getD k tm0)) 1001:Nat):Int)) (lL hs [.m 26 1] (lV 27 (iV ((min (sumN (fun i=>wgt d (ks.getD i tm0)) (k+1)) 1001:Nat):Int)) ?_ (hr:=rint (n:=if (1001:Int)<((sm:Nat)+((min (wgt d (ks.getD k tm0)) 1001:Nat):Int)) then (1001:Int) else ((sm:Nat)+((min (wgt d (ks.getD k tm0)) 1001:Nat):Int))) kR (by split<;>omega))))))))));refine lL hs [.m 5 27] (lNS (lL hs [.m 28 5,.m 29 1] ?_));cases zb:((((min (sumN (fun i=>wgt d (ks.getD i tm0)) (k+1)) 1001:Nat):Int):Int) == (1001:Int))
  ·
   have zd:=neOfBeq zb;refine lB 30 zb (lNIF (cK (kQ (lIn 32 ((k:Nat)+1) (k+1) ?_))));refine lL hs [.m 17 32] (lD ?_);intro a_ ka;replace hs:=hs.drop 1 0;refine ⟨_,_,?_,⟨k+1,(min (sumN (fun i=>wgt d (ks.getD i tm0)) (k+1)) 1001),ze,rfl,rfl,hs.to _ _,oM,rfl⟩,ka.to _ kR⟩
   omega
  have zd:=eq_of_beq zb;exact lB 30 zb (lNIT (cSLlL hs [.m 31 1,.m 4 31] (lNkXr hs [] (iV 1001) (congrArg (Value.int .i64) (by have h1_:=sumN_mono (fun i=>wgt d (ks.getD i tm0)) (show k+1≤ks.length by omega);have h2_:=wgt_ge (d:=d) (op:=op) (n:=n) (q:=q) (s:=s) (ks:=ks) oM;omega)))))
 have phb4:=eq_of_beq hb4;exact lB 11 hb4 (lNIT (cSLlL hs [.m 12 1,.v 13 (iV 1),.m 4 13] (lNkXr hs [] (iV 1) (congrArg (Value.int .i64) (by rw[wgt_0 oM];first|rfl|omega)))))
theorem tWeightT (ok:ByteArray→Prop):∀ (d:Nat) (p:PTm) (t:Tm) (w:World) (h:Hp),G w h→TmH d h p t→WfT ok d t →  Calls Tryz.prog 32 #[ptv p,iV 1001] w (Ret w h (fun v _=>v=iV ((min (wgt d t) 1001:Nat):Int)))
  | 0,_,_,_,_,_,x,_=>x.elim
  | d + 1,p,t,w,h,g,x,wf=>by
    obtain ⟨op,n,q,s,A,c,ps,ks,rfl,rfl,hc,hK,hKs⟩:=x.open;obtain ⟨w1,w2,w3,w4,w5,w6,w7,w8,w9⟩:=wf
    have hl2:ps.length≤2:=by
      have e1:ari op=ks.length:=w1;have:=ari_cases op;have:=hKs.len
      omega
    exact tWeightS ok d (fun p t w h=>tWeightT ok d p t w h) op n q s A c ps ks hc hl2 w1 w2 w3 w4 w5 w6 w7 w8 w9 w h g hK hKs
def tr (nm:Int→ByteArray)(l:List Stp)(i:Nat):Tm:=trT nm l (l.length+1) i
structure DpS (dp:Nat→Nat) (l:List Stp):Prop where
  one:∀ k,k<l.length→1≤dp k
  le:∀ k,k<l.length→dp k≤20
  a:∀ k,k<l.length→0<ari (l.getD k stp0).op→dp (l.getD k stp0).a.toNat<dp k
  b:∀ k,k<l.length→1<ari (l.getD k stp0).op→dp (l.getD k stp0).b.toNat<dp k
section
variable {nm:Int→ByteArray} {l:List Stp} {inp:Int} {dp:Nat→Nat}
end
def cntT:Nat→Tm→Nat
  | 0,_=>0
  | d+1,t=>1+sumN (fun i=>cntT d (t.ks.getD i tm0)) t.ks.length
def HasN:Nat→Tm→ByteArray→Prop
  | 0,_,_=>False
  | d+1,t,s=>(t.op=2∧s=t.s)∨∃ i,i<t.ks.length∧HasN d (t.ks.getD i tm0) s
def HasK (d:Nat)(ks:List Tm)(k:Nat)(s:ByteArray):Prop:=∃ i,i<k∧HasN d (ks.getD i tm0) s
theorem HasK.zero {d:Nat}{ks:List Tm}{s:ByteArray}:¬HasK d ks 0 s:=fun ⟨i,h,_⟩=>absurd h (Nat.not_lt_zero i)
theorem HasK.succ {d:Nat}{ks:List Tm}{k:Nat}{s:ByteArray}:HasK d ks (k+1) s↔HasK d ks k s∨HasN d (ks.getD k tm0) s:=by
  constructor
  · rintro ⟨i,hi,h⟩
    by_cases e:i=k
    · subst e;exact .inr h
    · exact .inl ⟨i,by omega,h⟩
  · rintro (⟨i,hi,h⟩|h)
    · exact ⟨i,by omega,h⟩
    · exact ⟨k,by omega,h⟩
theorem WfT.two {ok:ByteArray→Prop}{d:Nat}{t:Tm}(h:WfT ok (d+1) t):t.ks.length≤2:=by
  have:=h.1;have:=ari_cases t.op
  omega
theorem sumN_le {f:Nat→Nat}{b:Nat}:∀ n,(∀ i,i<n→f i≤b)→sumN f n≤n*b
  | 0,_=>by simp[sumN]
  | n+1,h=>by
    have h1:=sumN_le n (fun i hi=>h i oM);have h2:=h n (Nat.lt_succ_self n)
    show sumN f n+f n≤_
    rw[Nat.succ_mul];omega
structure RecOk (nm:Int→ByteArray) (inp:Int) (d:Nat) (l:List Stp) (l2:List Stp) (n:Nat) (t:Tm):Prop where
  lq:(∀ i,LQ 1 (l.getD i stp0).q)→∀ i,LQ 1 (l2.getD i stp0).q
  dps:∀ dp,DpS dp l→∃ dp',DpS dp' l2∧(∀ k,k<l.length→dp' k=dp k)∧dp' (l2.length-1)≤d
  pre:∃ m,l2=l++m
  len:l2.length=l.length+n
  pos:0<n
  fm:∀ k,k<l2.length→Formed inp k (l2.getD k stp0)
  tr:∀ f,l2.length≤f→trT nm l2 f (l2.length-1)=t
structure AllOk (nm:Int→ByteArray) (inp:Int) (d:Nat) (ts:List Tm) (k:Nat) (l:List Stp) (os:List Int) (c:Nat):Prop where
  len:l.length=c
  fm:∀ k,k<l.length→Formed inp k (l.getD k stp0)
  lq:∀ i,LQ 1 (l.getD i stp0).q
  dps:∃ dp,DpS dp l
  out:∀ j,j<k→0≤os.getD j 0∧os.getD j 0<(l.length:Nat)∧trT nm l (l.length+1) (os.getD j 0).toNat=ts.getD j tm0
theorem rKids (op:Int)(w:World)(h:Hp)(g:G w h):CV 63 #[iV op] w h (iV (ari op)):=by
 have hs:=sS g;refine go Tryz.func63 [(0,iV op)] rfl (cSLlL hs [.v 2 (iV 0)] (lNcQ (cSLlL hs [.m 3 0] (lNkZ (cQ (cSL ?_))))));cases hb1:((op:Int) == (1:Int))
 ·
  have phb1:=neOfBeq hb1;refine lB 5 hb1 (lL hs [.m 4 5] (lNIF (kQ ?_)));cases hb2:((op:Int) == (2:Int))
  ·
   have phb2:=neOfBeq hb2;refine lB 6 hb2 (lL hs [.m 4 6] (lNIF (cQ (cSL ?_))));cases hb3:((op:Int) == (7:Int))
   ·
    have phb3:=neOfBeq hb3;refine lB 8 hb3 (lL hs [.m 7 8] (lNIF (cSL ?_)));cases hb4:((op:Int) == (8:Int))
    ·
     have phb4:=neOfBeq hb4;refine lB 9 hb4 (lL hs [.m 7 9] (lNIF (cSL ?_)));cases hb5:((op:Int) == (9:Int))
     ·
      have phb5:=neOfBeq hb5;refine lB 10 hb5 (lL hs [.m 7 10] (lNIF (cSL ?_)));cases hb6:((op:Int) == (10:Int))
      ·
       have phb6:=neOfBeq hb6;refine lB 11 hb6 (lL hs [.m 7 11] (lNIF (kQ ?_)));cases hb7:((op:Int) == (11:Int))
       ·
        have phb7:=neOfBeq hb7;refine lB 12 hb7 (lL hs [.m 7 12] (lNIF (cQ (cSL ?_))));cases hb8:((op:Int) == (3:Int))
        ·
         have phb8:=neOfBeq hb8;refine lB 14 hb8 (lL hs [.m 13 14] (lNIF (cSL ?_)));cases hb9:((op:Int) == (4:Int))
         ·
          have phb9:=neOfBeq hb9;refine lB 15 hb9 (lL hs [.m 13 15] (lNIF (cSL ?_)));cases za:((op:Int) == (5:Int))
          ·
           have ze:=neOfBeq za;refine lB 16 za (lL hs [.m 13 16] (lNIF (cSL ?_)));cases zb:((op:Int) == (6:Int))
           ·
            have zf:=neOfBeq zb;refine lB 17 zb (lL hs [.m 13 17] (lNIF (cSL ?_)));cases zc:((op:Int) == (12:Int))
            ·
             have zg:=neOfBeq zc;refine lB 18 zc (lL hs [.m 13 18] (lNIF (kQ ?_)));cases zd:((op:Int) == (13:Int))
             ·
              have zi:=neOfBeq zd;exact lB 19 zd (lL hs [.m 13 19] (lNIF (cK (cSLlL hs [.v 2 (iV (-1))] (lNkXr hs [] (iV (-1)) (congrArg (Value.int .i64) (by have:=ari_cases op;omega)))))))
             have zi:=eq_of_beq zd;exact lB 19 zd (lL hs [.m 13 19] (lNIT (cSLlL hs [.v 2 (iV 2)] (lNkXr hs [] (iV 2) (congrArg (Value.int .i64) (by have:=ari_cases op;omega))))))
            have zg:=eq_of_beq zc;exact lB 18 zc (lL hs [.m 13 18] (lNIT (cK (cIT (cSLlL hs [.v 2 (iV 2)] (lNkXr hs [] (iV 2) (congrArg (Value.int .i64) (by have:=ari_cases op;omega))))))))
           have zf:=eq_of_beq zb;exact lB 17 zb (lL hs [.m 13 17] (lNIT (cK (cIT (cSLlL hs [.v 2 (iV 2)] (lNkXr hs [] (iV 2) (congrArg (Value.int .i64) (by have:=ari_cases op;omega))))))))
          have ze:=eq_of_beq za;exact lB 16 za (lL hs [.m 13 16] (lNIT (cK (cIT (cSLlL hs [.v 2 (iV 2)] (lNkXr hs [] (iV 2) (congrArg (Value.int .i64) (by have:=ari_cases op;omega))))))))
         have phb9:=eq_of_beq hb9;exact lB 15 hb9 (lL hs [.m 13 15] (lNIT (cK (cIT (cSLlL hs [.v 2 (iV 2)] (lNkXr hs [] (iV 2) (congrArg (Value.int .i64) (by have:=ari_cases op;omega))))))))
        have phb8:=eq_of_beq hb8;exact lB 14 hb8 (lL hs [.m 13 14] (lNIT (cK (cIT (cSLlL hs [.v 2 (iV 2)] (lNkXr hs [] (iV 2) (congrArg (Value.int .i64) (by have:=ari_cases op;omega))))))))
       have phb7:=eq_of_beq hb7;exact lB 12 hb7 (lL hs [.m 7 12] (lNIT (cSLlL hs [.v 2 (iV 1)] (lNkXr hs [] (iV 1) (congrArg (Value.int .i64) (by have:=ari_cases op;omega))))))
      have phb6:=eq_of_beq hb6;exact lB 11 hb6 (lL hs [.m 7 11] (lNIT (cK (cIT (cSLlL hs [.v 2 (iV 1)] (lNkXr hs [] (iV 1) (congrArg (Value.int .i64) (by have:=ari_cases op;omega))))))))
     have phb5:=eq_of_beq hb5;exact lB 10 hb5 (lL hs [.m 7 10] (lNIT (cK (cIT (cSLlL hs [.v 2 (iV 1)] (lNkXr hs [] (iV 1) (congrArg (Value.int .i64) (by have:=ari_cases op;omega))))))))
    have phb4:=eq_of_beq hb4;exact lB 9 hb4 (lL hs [.m 7 9] (lNIT (cK (cIT (cSLlL hs [.v 2 (iV 1)] (lNkXr hs [] (iV 1) (congrArg (Value.int .i64) (by have:=ari_cases op;omega))))))))
   have phb3:=eq_of_beq hb3;exact lB 8 hb3 (lL hs [.m 7 8] (lNIT (cK (cIT (cSLlL hs [.v 2 (iV 1)] (lNkXr hs [] (iV 1) (congrArg (Value.int .i64) (by have:=ari_cases op;omega))))))))
  have phb2:=eq_of_beq hb2;exact lB 6 hb2 (lL hs [.m 4 6] (lNIT (cSLlL hs [.v 2 (iV 0)] (lNkXr hs [] (iV 0) (congrArg (Value.int .i64) (by have:=ari_cases op;omega))))))
 have phb1:=eq_of_beq hb1;exact lB 5 hb1 (lL hs [.m 4 5] (lNIT (cK (cIT (cSLlL hs [.v 2 (iV 0)] (lNkXr hs [] (iV 0) (congrArg (Value.int .i64) (by have:=ari_cases op;omega))))))))
theorem rIntSgz (z:Int)(A:Option Addr)(c:Nat)(w:World)(h:Hp)(g:G w h)(hA:S3 A (lim (iabs z)) h):CV 141 #[.agg #[.bool (ineg z),.slice A ((lim (iabs z)).length) c]] w h (iV z.sign):=by
 have hs:=((sS g).aS hA);have hlz:0<(lim (iabs z)).length↔0<iabs z:=lim_pos
 unfold iabs at hlz
 refine go Tryz.func141 [(0,.agg #[.bool (ineg z),qS A ((lim (iabs z)).length) c])] rfl (cSL (lA 1 26 ([.bool (ineg z),qS A ((lim (iabs z)).length) c]) hs (fun b1 w2 h3 hs=>lL hs [.v 2 (iV 0)] (lNcQ (kZ (cSLlL hs [.v 4 (qP b1 1),.o 5 (qS A ((lim (iabs z)).length) c) 0 1 1,.v 6 (nV ((lim (iabs z)).length))] ?_))))));cases hb4:((((lim (iabs z)).length:Nat):Int) == (0:Int))
 ·
  have phb4:=neOfBeq hb4;refine lB 7 hb4 (lL hs [.m 3 7] (lNIF (cSLlL hs [.v 9 (pB b1),.o 10 (.bool (ineg z)) 0 0 1,.m 8 10] (lN ?_))));cases hb5:(ineg z)
  ·
   try rw[hb5] at hs
   try rw[hb5]
   have phb5:=ineg_false hb5;exact cIF (cK (cSLlL hs [.v 2 (iV 1)] (lNkXr hs [] (iV 1) (congrArg (Value.int .i64) (by first|(rw[show z=0 by (unfold iabs at *;omega)];rfl)|exact (Int.sign_eq_neg_one_of_neg oM).symm|exact (Int.sign_eq_one_of_pos (by unfold iabs at *;omega)).symm)))))
  try rw[hb5] at hs
  try rw[hb5]
  have phb5:=ineg_true hb5;exact cIT (cSLlL hs [.v 2 (iV (-1))] (lNkXr hs [] (iV (-1)) (congrArg (Value.int .i64) (by first|(rw[show z=0 by (unfold iabs at *;omega)];rfl)|exact (Int.sign_eq_neg_one_of_neg oM).symm|exact (Int.sign_eq_one_of_pos (by unfold iabs at *;omega)).symm))))
 have phb4:=eq_of_beq hb4;exact lB 7 hb4 (lL hs [.m 3 7] (lNIT (cSLlL hs [.v 2 (iV 0)] (lNkXr hs [] (iV 0) (congrArg (Value.int .i64) (by first|(rw[show z=0 by (unfold iabs at *;omega)];rfl)|exact (Int.sign_eq_neg_one_of_neg oM).symm|exact (Int.sign_eq_one_of_pos (by unfold iabs at *;omega)).symm))))))
theorem rSgz (z:Int)(A:Option Addr)(c n:Nat)(D:Option Addr)(d:Nat)(hc:(lim (iabs z)).length≤c)(hd:(lim n).length≤d)(w:World)(h:Hp)(g:G w h)(hA:S3 A (lim (iabs z)) h)(hD:S3 D (lim n) h):CV 104 #[.agg #[.bool (ineg z),.slice A ((lim (iabs z)).length) c,.slice D ((lim n).length) d]] w h (iV z.sign):=by
 have hs:=(((sS g).aS hA).aS hD);exact go Tryz.func104 [(0,.agg #[.bool (ineg z),qS A ((lim (iabs z)).length) c,qS D ((lim n).length) d])] rfl (cSL (lA 1 28 ([.bool (ineg z),qS A ((lim (iabs z)).length) c,qS D ((lim n).length) d]) hs (fun b1 w2 h3 hs=>lL hs [.v 2 (iV 0)] (lNS (lL hs [.v 3 (pB b1),.o 4 (.agg #[.bool (ineg z),qS A ((lim (iabs z)).length) c]) 0 0 2] (lCval 5 hs (rIntSgz z A c _ _ hs.g hs.f.2.1) (fun w4 h5 hs=>lL hs [.m 2 5] (lNkXr hs [] (iV z.sign) rfl))))))))
theorem rZero (z:Int)(A:Option Addr)(c n:Nat)(D:Option Addr)(d:Nat)(hc:(lim (iabs z)).length≤c)(hd:(lim n).length≤d)(w:World)(h:Hp)(g:G w h)(hA:S3 A (lim (iabs z)) h)(hD:S3 D (lim n) h):CV 65 #[.agg #[.bool (ineg z),.slice A ((lim (iabs z)).length) c,.slice D ((lim n).length) d]] w h (.bool (decide (n=0∨z=0))):=by
 have hs:=(((sS g).aS hA).aS hD);have hln:0<(lim n).length↔0<n:=lim_pos;refine go Tryz.func65 [(0,.agg #[.bool (ineg z),qS A ((lim (iabs z)).length) c,qS D ((lim n).length) d])] rfl (cSL (lA 1 28 ([.bool (ineg z),qS A ((lim (iabs z)).length) c,qS D ((lim n).length) d]) hs (fun b1 w2 h3 hs=>lL hs [.v 2 qF] (lNS (lL hs [.v 3 (qP b1 2),.o 4 (qS D ((lim n).length) d) 0 2 1,.v 5 (nV ((lim n).length))] ?_)))));cases hb4:((((lim n).length:Nat):Int) == (0:Int))
 ·
  have phb4:=neOfBeq hb4;refine lB 6 hb4 (lL hs [.m 7 6,.o 8 (.agg #[.bool (ineg z),qS A ((lim (iabs z)).length) c,qS D ((lim n).length) d]) 0 0 3] (lCval 9 hs (rSgz z A c n D d hc hd _ _ hs.g hs.f.2.1 hs.f.1) (fun w5 h6 hs=>?_)));have hsg:z.sign=0↔z=0:=Int.sign_eq_zero_iff_zero;cases hb7:((z.sign:Int) == (0:Int))
  ·
   have phb7:=neOfBeq hb7;exact lB 10 hb7 (lL hs [.v 11 qF,.m 2 11] (lNkXr hs [] qF (congrArg Value.bool (decide_eq_false oM).symm)))
  have phb7:=eq_of_beq hb7;exact lB 10 hb7 (lL hs [.v 11 qT,.m 2 11] (lNkXr hs [] qT (congrArg Value.bool (decide_eq_true oM).symm)))
 have phb4:=eq_of_beq hb4;refine lB 6 hb4 (lL hs [.m 7 6] (lG 8 ?_));exact lG 9 (lG 10 (lL hs [.v 11 qT,.m 2 11] (lNkXr hs [] qT (congrArg Value.bool (decide_eq_true oM).symm))))
end Go.Proofs.YthblejkgjjallaaGreatDoor
