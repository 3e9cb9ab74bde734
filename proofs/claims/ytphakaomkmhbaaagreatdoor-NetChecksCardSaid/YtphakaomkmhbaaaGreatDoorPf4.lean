/- Laws and contracts that the card of this claim stands on, part 5. No condition of ours. -/
import Derived.Test.YtphakaomkmhbaaaGreatDoorPf0
import Derived.Test.YtphakaomkmhbaaaGreatDoorPf1
import Derived.Test.YtphakaomkmhbaaaGreatDoorPf2
import Derived.Test.YtphakaomkmhbaaaGreatDoorPf3
set_option maxRecDepth 100000
set_option maxHeartbeats 4000000
namespace Go.Proofs.YtphakaomkmhbaaaGreatDoor
open Go.RowKit
open Go.RowKit Go.Shelf
theorem fCmp (a b:Rat)(ha:LQ 100000000 a)(hb:LQ 100000000 b)(w:World)(h:Hp)(g:G w h):Calls Tryz.prog 63 #[qv a,qv b] w (Ret w h fun v _=>v=.int .i64 (cmpR a b)):=by
  by_cases h1:a.den=1
  · by_cases h2:b.den=1
    · exact fCmpWW a b ha hb h1 h2 w h g
    · exact fCmpWN a b ha hb h1 h2 w h g
  · exact fCmpNN a b ha hb h1 w h g
theorem cmpR_gt {a b:Rat}:cmpR a b>0↔b<a:=by
  unfold cmpR cmpI
  rw[Rat.lt_iff]
  split
  · simp;omega
  · split<;>simp<;>omega
def mkR (n d:Int):Rat:=mkRat (if d<0 then -n else n) (iabs d)
theorem fMax (a b:Rat)(ha:LQ 100000000 a)(hb:LQ 100000000 b)(w:World)(h:Hp)(g:G w h) :
    Calls Tryz.prog 227 #[qv a,qv b] w (Ret w h fun v _=>v=qv (if a<b then b else a)):=by
 have hs:=SS.start g
 refine go Tryz.func227 [(0,qv a),(1,qv b)] rfl ?_
 refine cSL (lA 2 74 (qc a) hs (fun b1 w2 h3 hs=>?_))
 refine lA 3 74 (qc b) hs (fun b4 w5 h6 hs=>?_)
 refine lA 4 74 ([.bool false,.int .u64 0,.string ⟨#[]⟩,.int .u64 0,.string ⟨#[]⟩]) hs (fun b7 w8 h9 hs=>?_)
 refine lN (CG.seq (cSL (lL hs [.o 5 (qv b) 1 0 5,.o 6 (qv a) 2 0 5] (lC 7 hs (fCmp b a aM aM _ _ hs.g) ?_))))
 rintro _ w10 h11 hs rfl
 cases hb12:(decide ((0:Int)<(cmpR b a:Int)))
 ·
  have phb12:=oF hb12
  refine lB 8 hb12 ?_
  refine lN (cIF (CG.skipN (cSL (lL hs [.o 10 (qv a) 2 0 5] (lP 0 0 (qc a) hs (fun w13 hs=>?_))))))
  exact lN (CG.ret (hs.ret [(0,0,5)] (qv a) (by rw[if_neg (fun h_=>by have:=cmpR_gt.2 h_;omega)])))
 have phb12:=oT hb12
 refine lB 8 hb12 ?_
 refine lN (cIT (cSL (lL hs [.o 9 (qv b) 1 0 5] (lP 0 0 (qc b) hs (fun w14 hs=>?_)))))
 exact lN (CG.ret (hs.ret [(0,0,5)] (qv b) (by rw[if_pos (cmpR_gt.1 oM)])))
theorem fMakeN (n d:Int)(hd:d<0)(hla:(wds (iabs n)).length≤1000000000)(hlb:(wds (iabs d)).length≤1000000000)(w:World)(h:Hp)(g:G w h)(tb:Tab h) :
    Calls Tryz.prog 166 #[iv n,iv d] w (Ret w h fun v _=>v=.tuple #[qv (mkR n d),.bool true]):=by
 have hs:=SS.start g
 replace hs:=(hs.add (K:=fun h_=>Tab h_) tb)
 have hds:=Int.sign_eq_neg_one_of_neg hd
 have hd0:0<iabs d:=by unfold iabs;omega
 have hln:(wds (iabs (-n))).length≤1000000000:=by unfold iabs;rw[Int.natAbs_neg];exact hla
 refine go Tryz.func166 [(0,iv n),(1,iv d)] rfl ?_
 refine cSL (lA 2 72 (ic n) hs (fun b1 w2 h3 hs=>?_))
 refine lA 3 72 (ic d) hs (fun b4 w5 h6 hs=>?_)
 refine lA 4 74 ([.bool false,.int .u64 0,.string ⟨#[]⟩,.int .u64 0,.string ⟨#[]⟩]) hs (fun b7 w8 h9 hs=>?_)
 refine lL hs [.v 5 (.bool false)] (lN (CG.seq (cSL (lL hs [.o 6 (iv d) 1 0 3] (lC 7 hs (wSign d aOM _ _ hs.g) ?_)))))
 rintro _ w10 h11 hs rfl
 have hb12:(((d).sign:Int) == (0:Int))=false:=beqF oM
 have phb12:=neOfBeq hb12
 refine lB 8 hb12 ?_
 refine lN (cIF (CG.skipN (CG.seq (cSL (lL hs [.o 10 (iv d) 1 0 3] (lC 11 hs (wSign d aOM _ _ hs.g) ?_))))))
 rintro _ w13 h14 hs rfl
 have ⟨hb15,phb15⟩:=dT (p:=((d).sign:Int)<(0:Int)) oM
 refine lB 12 hb15 ?_
 refine lN (cIT (CG.listed (lL hs [.o 13 (iv n) 2 0 3] (lC 14 hs (wNeg n aOM _ _ hs.g) ?_))))
 rintro _ w16 h17 hs rfl
 refine lP 2 0 (ic (-n)) hs (fun w18 hs=>?_)
 refine lN (CG.seq (cR 4 [] mixed hs al_nil ?_))
 refine eO 0 15 [(2,0,3)] (iv (-n)) hs ?_
 refine eO 1 16 [(1,0,3)] (iv d) hs ?_
 refine eC 2 17 hs (fun _ _ hs=>wAbs d _ _ hs.g) ?_
 rintro _ _ _ w19 h20 hs rfl
 refine eC 3 18 hs (fun _ _ hs=>fLowest (-n) (iabs d) aOM aOM aOM _ _ hs.g (hs.f.1)) ?_
 rintro _ _ _ w21 h22 hs rfl
 refine eD0 hs (fun w23 h24 hs=>?_)
 refine tP 4 0 0 (qc (mkRat (-n) (iabs d))) hs (fun w25 hs=>?_)
 refine tV 5 5 (.bool true) ?_
 exact tN (CG.ret (hs.ret [(0,0,5)] (.tuple #[qv (mkRat (-n) (iabs d)),.bool true]) (by unfold mkR;rw[if_pos hd])))
theorem fMakeP (n d:Int)(hd:0<d)(hla:(wds (iabs n)).length≤1000000000)(hlb:(wds (iabs d)).length≤1000000000)(w:World)(h:Hp)(g:G w h)(tb:Tab h) :
    Calls Tryz.prog 166 #[iv n,iv d] w (Ret w h fun v _=>v=.tuple #[qv (mkR n d),.bool true]):=by
 have hs:=SS.start g
 replace hs:=(hs.add (K:=fun h_=>Tab h_) tb)
 have hds:=Int.sign_eq_one_of_pos hd
 have hd0:0<iabs d:=by unfold iabs;omega
 refine go Tryz.func166 [(0,iv n),(1,iv d)] rfl ?_
 refine cSL (lA 2 72 (ic n) hs (fun b1 w2 h3 hs=>?_))
 refine lA 3 72 (ic d) hs (fun b4 w5 h6 hs=>?_)
 refine lA 4 74 ([.bool false,.int .u64 0,.string ⟨#[]⟩,.int .u64 0,.string ⟨#[]⟩]) hs (fun b7 w8 h9 hs=>?_)
 refine lL hs [.v 5 (.bool false)] (lN (CG.seq (cSL (lL hs [.o 6 (iv d) 1 0 3] (lC 7 hs (wSign d aOM _ _ hs.g) ?_)))))
 rintro _ w10 h11 hs rfl
 have hb12:(((d).sign:Int) == (0:Int))=false:=beqF oM
 have phb12:=neOfBeq hb12
 refine lB 8 hb12 ?_
 refine lN (cIF (CG.skipN (CG.seq (cSL (lL hs [.o 10 (iv d) 1 0 3] (lC 11 hs (wSign d aOM _ _ hs.g) ?_))))))
 rintro _ w13 h14 hs rfl
 have ⟨hb15,phb15⟩:=dF (p:=((d).sign:Int)<(0:Int)) oM
 refine lB 12 hb15 ?_
 refine lN (cIF (CG.skipN (CG.seq (cR 4 [] mixed hs al_nil ?_))))
 refine eO 0 15 [(2,0,3)] (iv n) hs ?_
 refine eO 1 16 [(1,0,3)] (iv d) hs ?_
 refine eC 2 17 hs (fun _ _ hs=>wAbs d _ _ hs.g) ?_
 rintro _ _ _ w16 h17 hs rfl
 refine eC 3 18 hs (fun _ _ hs=>fLowest n (iabs d) aOM aOM aOM _ _ hs.g (hs.f.1)) ?_
 rintro _ _ _ w18 h19 hs rfl
 refine eD0 hs (fun w20 h21 hs=>?_)
 refine tP 4 0 0 (qc (mkRat n (iabs d))) hs (fun w22 hs=>?_)
 refine tV 5 5 (.bool true) ?_
 exact tN (CG.ret (hs.ret [(0,0,5)] (.tuple #[qv (mkRat n (iabs d)),.bool true]) (by unfold mkR;rw[if_neg oM])))
theorem fMake (n d:Int)(hd:d≠0)(hla:(wds (iabs n)).length≤1000000000)(hlb:(wds (iabs d)).length≤1000000000)(w:World)(h:Hp)(g:G w h)(tb:Tab h):Calls Tryz.prog 166 #[iv n,iv d] w (Ret w h fun v _=>v=.tuple #[qv (mkR n d),.bool true]):=by
  rcases Int.lt_trichotomy d 0 with h1|h1|h1
  · exact fMakeN n d h1 hla hlb w h g tb
  · exact absurd h1 hd
  · exact fMakeP n d h1 hla hlb w h g tb
theorem fDivN (a b:Rat)(ha:LQ 100000000 a)(hb:LQ 100000000 b)(hz:b.num≠0)(w:World)(h:Hp)(g:G w h)(tb:Tab h) :
    Calls Tryz.prog 87 #[qv a,qv b] w (Ret w h fun v _=>v=.tuple #[qv (a/b),.bool true]):=by
 have hs:=SS.start g
 replace hs:=(hs.add (K:=fun h_=>Tab h_) tb)
 have ha_:=ha
 have hb_:=hb
 obtain ⟨ha1,ha2⟩:=ha_
 obtain ⟨hb1,hb2⟩:=hb_
 have hzs:((b.num).sign == (0:Int))=false:=by simpa using hz
 obtain ⟨hi1,hi2⟩:=rat_inv b hz
 have hsl:(wds (iabs (sgn (decide ((b.num).sign<(0:Int))) b.den))).length≤100000000:=by rw[iabs_sgn];exact hb2
 have hli:LQ 100000000 b⁻¹:=⟨by rw[hi1];exact hsl,by rw[hi2];exact hb1⟩
 have hli2:LQ 1000000000 b⁻¹:=hli.mono oM
 refine go Tryz.func87 [(0,qv a),(1,qv b)] rfl ?_
 refine cSL (lA 2 74 (qc a) hs (fun b1 w2 h3 hs=>?_))
 refine lA 3 74 (qc b) hs (fun b4 w5 h6 hs=>?_)
 refine lA 4 74 ([.bool false,.int .u64 0,.string ⟨#[]⟩,.int .u64 0,.string ⟨#[]⟩]) hs (fun b7 w8 h9 hs=>?_)
 refine lL hs [.v 5 (.bool false)] (lN (CG.seq (cSL (lL hs [.o 6 (qv b) 1 0 5] (lC 7 hs (fSign b aM _ _ hs.g) ?_)))))
 rintro _ w10 h11 hs rfl
 refine lV 8 (.bool false) ?_ (hr:=rb (e:=((b.num).sign == (0:Int))) kR hzs)
 refine lN (cIF (CG.skipN (CG.seq (cR 12 [] mixed hs al_nil ?_))))
 refine eO 0 10 [(2,0,5)] (qv a) hs ?_
 refine eO 1 11 [(1,0,5)] (qv b) hs ?_
 refine eO 4 14 [(1,0,5)] (qv b) hs ?_
 refine eV 7 17 (.pointer (some ⟨b4,0,none⟩)) ?_
 refine eO 8 18 [(1,0,3)] (iv b.num) hs ?_
 refine eC 2 12 hs (fun _ _ hs=>fSign b aM _ _ hs.g) ?_
 rintro _ _ _ w12 h13 hs rfl
 refine eV 3 13 (.bool (decide (((b.num).sign:Int)<(0:Int)))) ?_
 refine eC 5 15 hs (fun _ _ hs=>fDen b aM _ _ hs.g) ?_
 rintro _ _ _ w14 h15 hs rfl
 refine eC 6 16 hs (fun _ _ hs=>wFrom (decide (((b.num).sign:Int)<(0:Int))) b.den aOM _ _ hs.g) ?_
 rintro _ _ _ w16 h17 hs rfl
 refine eC 9 19 hs (fun _ _ hs=>wAbs b.num _ _ hs.g) ?_
 rintro _ _ _ w18 h19 hs rfl
 refine eC 10 20 hs (fun _ _ hs=>fPackE b⁻¹ (sgn (decide (((b.num).sign:Int)<(0:Int))) b.den) (iabs b.num) hi1 hi2.symm aM _ _ hs.g) ?_
 rintro _ _ _ w20 h21 hs rfl
 refine eC 11 21 hs (fun _ _ hs=>fMul a (b⁻¹) aM aM _ _ hs.g (hs.f.1)) ?_
 rintro _ _ _ w22 h23 hs rfl
 refine eD0 hs (fun w24 h25 hs=>?_)
 refine tP 12 0 0 (qc (a*(b⁻¹))) hs (fun w26 hs=>?_)
 refine tV 13 5 (.bool true) ?_
 exact tN (CG.ret (hs.ret [(0,0,5)] (.tuple #[qv (a*(b⁻¹)),.bool true]) (by rw[Rat.div_def])))
theorem rNatGcdE (a:Nat)(A:Option Addr)(c:Nat)(hc:(lim a).length≤c)(b:Nat)(D:Option Addr)(d:Nat)(hd:(lim b).length≤d)(q:Nat)(hq:q=Nat.gcd a b)(hLa:(lim a).length≤3000000000)(hLb:(lim b).length≤3000000000)(w:World)(h:Hp)(g:G w h)(hA:SlO 1 u32c 0 h A (lim a))(hD:SlO 1 u32c 0 h D (lim b)) :
    Calls Tryz.prog 225 #[.slice A (lim a).length c,.slice D (lim b).length d] w (Ret w h fun v h1=>RN h1 v q):=by
  subst hq;exact rNatGcd a A c hc b D d hd hLa hLb w h g hA hD
theorem mkR_parts (n d:Int)(hd:d≠0):(mkR n d).num=sgn (ineg n != ineg d) (iabs n/Nat.gcd (iabs n) (iabs d))∧(mkR n d).den=iabs d/Nat.gcd (iabs n) (iabs d)∧0<Nat.gcd (iabs n) (iabs d):=by
  have hd0:0<iabs d:=by unfold iabs;omega
  have hz:iabs (if d<0 then -n else n)=iabs n:=by unfold iabs;split<;>omega
  obtain ⟨h1,h2,h3,h4⟩:=mkRat_parts (if d<0 then -n else n) (iabs d) hd0
  rw[hz] at h1 h2 h3 h4
  refine ⟨?_,h2,h4⟩
  have hs:=sgn_part _ _ h3
  rw[hz] at hs
  show (mkRat _ _).num=_
  rw[h1,←hs]
  by_cases hn:n=0
  · have hk:iabs n/Nat.gcd (iabs n) (iabs d)=0:=by rw[hn];exact Nat.zero_div _
    rw[hk]
    unfold sgn
    simp
  · have e:decide ((if d<0 then -n else n).sign<0)=(ineg n != ineg d):=by
      unfold ineg
      rcases Int.lt_trichotomy n 0 with a|a|a
      · rcases Int.lt_trichotomy d 0 with b|b|b
        · rw[if_pos b,Int.sign_eq_one_of_pos oM];simp[a,b]
        · exact absurd b hd
        · rw[if_neg oM,Int.sign_eq_neg_one_of_neg a];simp[a,show ¬d<0 by omega]
      · exact absurd a hn
      · rcases Int.lt_trichotomy d 0 with b|b|b
        · rw[if_pos b,Int.sign_eq_neg_one_of_neg oM];simp[show ¬n<0 by omega,b]
        · exact absurd b hd
        · rw[if_neg oM,Int.sign_eq_one_of_pos a];simp[show ¬n<0 by omega,show ¬d<0 by omega]
    rw[e]
theorem rMake (x:Int)(A:Option Addr)(c:Nat)(hc:(lim (iabs x)).length≤c)(hLx:(lim (iabs x)).length≤2000000000)(y:Int)(D:Option Addr)(d:Nat)(hd:(lim (iabs y)).length≤d)(hLy:(lim (iabs y)).length≤2000000000)(hd0:y≠0)(w:World)(h:Hp)(g:G w h)(hA:SlO 1 u32c 0 h A (lim (iabs x)))(hD:SlO 1 u32c 0 h D (lim (iabs y))) :
    Calls Tryz.prog 173 #[.agg #[.bool (ineg x),.slice A ((lim (iabs x)).length) c],.agg #[.bool (ineg y),.slice D ((lim (iabs y)).length) d]] w (Ret w h fun v h1=>RQ h1 v (mkR x y)):=by
 have hs:=SS.start g
 replace hs:=((hs.a_SlO hA).a_SlO hD)
 obtain ⟨hm1,hm2,hq0⟩:=mkR_parts x y hd0
 obtain ⟨q,hq⟩:∃ q,q=Nat.gcd (iabs x) (iabs y):=⟨_,rfl⟩
 rw[←hq] at hm1 hm2 hq0
 have hql:(lim q).length≤2000000000:=lim_len_le' (by rw[hq];exact Nat.gcd_le_right _ (by unfold iabs;omega)) hLy
 refine go Tryz.func173 [(0,.agg #[.bool (ineg x),.slice A ((lim (iabs x)).length) c]),(1,.agg #[.bool (ineg y),.slice D ((lim (iabs y)).length) d])] rfl ?_
 refine cSL (lA 2 84 ([.bool (ineg x),.slice A ((lim (iabs x)).length) c]) hs (fun b1 w2 h3 hs=>?_))
 refine lA 3 84 ([.bool (ineg y),.slice D ((lim (iabs y)).length) d]) hs (fun b4 w5 h6 hs=>?_)
 refine lA 4 86 ([.bool false,.slice none 0 0,.slice none 0 0]) hs (fun b7 w8 h9 hs=>?_)
 refine lNS (lL hs [.v 10 (.pointer (some ⟨b1,1,none⟩)),.o 11 (.slice A ((lim (iabs x)).length) c) 2 1 1,.v 12 (.pointer (some ⟨b4,1,none⟩)),.o 13 (.slice D ((lim (iabs y)).length) d) 1 1 1] (lC 14 hs (rNatGcdE (iabs x) A c hc (iabs y) D d hd q hq oM oM _ _ hs.g (hs.f.2.1) (hs.f.1)) ?_))
 rintro _ w14 h15 hs ⟨A10,c11,rfl,hc12,hA13⟩
 replace hs:=(hs.a_SlO hA13)
 refine lL hs [.m 5 14] (lNS (lL hs [.v 16 (.pointer (some ⟨b1,1,none⟩)),.o 17 (.slice A ((lim (iabs x)).length) c) 2 1 1,.m 18 5] (lC 19 hs (rNatDiv (iabs x) A c hc q A10 c11 hc12 oM oM hq0 _ _ hs.g (hs.f.2.2.1) (hs.f.1)) ?_)))
 rintro _ w20 h21 hs ⟨_,v2_A16,rfl,⟨A16,c17,rfl,hc18,hA19⟩,-⟩
 replace hs:=(hs.a_SlO hA19)
 refine lL hs [.m 15 19,.v 20 (.slice A16 ((lim ((iabs x)/q)).length) c17),.v 21 v2_A16,.m 6 20,.m 7 21] (lNS (lL hs [.v 23 (.pointer (some ⟨b4,1,none⟩)),.o 24 (.slice D ((lim (iabs y)).length) d) 1 1 1,.m 25 5] (lC 26 hs (rNatDiv (iabs y) D d hd q A10 c11 hc12 oM oM hq0 _ _ hs.g (hs.f.2.2.1) (hs.f.2.1)) ?_)))
 rintro _ w26 h27 hs ⟨_,v2_A22,rfl,⟨A22,c23,rfl,hc24,hA25⟩,-⟩
 replace hs:=(hs.a_SlO hA25)
 refine lL hs [.m 22 26,.v 27 (.slice A22 ((lim ((iabs y)/q)).length) c23),.v 28 v2_A22,.m 8 27,.m 9 28] (lNS (lL hs [.v 29 (.pointer (some ⟨b1,0,none⟩)),.o 30 (.bool (ineg x)) 2 0 1,.v 31 (.pointer (some ⟨b4,0,none⟩)),.o 32 (.bool (ineg y)) 1 0 1,.v 33 (.bool ((ineg x) != (ineg y))),.m 34 6] (lC 35 hs (rI ((ineg x) != (ineg y)) ((iabs x)/q) A16 c17 hc18 _ _ hs.g (hs.f.2.1)) ?_)))
 rintro _ w32 h33 hs ⟨A28,c29,rfl,hc30,hA31⟩
 replace hs:=(hs.a_SlO hA31)
 refine lL hs [.m 36 8,.v 37 (.agg #[.bool (ineg (sgn ((ineg x) != (ineg y)) ((iabs x)/q))),.slice A28 ((lim (iabs (sgn ((ineg x) != (ineg y)) ((iabs x)/q)))).length) c29,.slice A22 ((lim ((iabs y)/q)).length) c23])] (lP 0 0 ([.bool (ineg (sgn ((ineg x) != (ineg y)) ((iabs x)/q))),.slice A28 ((lim (iabs (sgn ((ineg x) != (ineg y)) ((iabs x)/q)))).length) c29,.slice A22 ((lim ((iabs y)/q)).length) c23]) hs (fun w34 hs=>?_))
 exact lN (CG.ret (hs.ret [(0,0,3)] (.agg #[.bool (ineg (sgn ((ineg x) != (ineg y)) ((iabs x)/q))),.slice A28 ((lim (iabs (sgn ((ineg x) != (ineg y)) ((iabs x)/q)))).length) c29,.slice A22 ((lim ((iabs y)/q)).length) c23]) (by unfold RQ;rw[hm1,hm2];exact ⟨_,_,_,_,rfl,hc30,hc24,(hs.f.1),(hs.f.2.1)⟩)))
theorem lim_small {z:Int}(h0 : -9223372036854775808≤z)(h1:z<9223372036854775808):(lim (iabs z)).length≤2:=lim_len_le (by unfold iabs;omega)
theorem rOf (z:Int)(h0 : -9223372036854775808≤z)(h1:z<9223372036854775808)(w:World)(h:Hp)(g:G w h) :
    Calls Tryz.prog 80 #[.int .i64 z] w (Ret w h fun v h1=>RQ h1 v (z:Rat)):=by
 have hs:=SS.start g
 refine go Tryz.func80 [(0,.int .i64 z)] rfl ?_
 refine cSL (lA 2 86 ([.bool false,.slice none 0 0,.slice none 0 0]) hs (fun b1 w2 h3 hs=>?_))
 refine lNS (lL hs [.m 3 0] (lC 4 hs (rIntOf z oM oM _ _ hs.g) ?_))
 rintro _ w8 h9 hs ⟨A4,c5,rfl,hc6,hA7⟩
 replace hs:=(hs.a_SlO hA7)
 refine lC 5 hs (rNatOf 1 oM _ _ hs.g) ?_
 rintro _ w14 h15 hs ⟨A10,c11,rfl,hc12,hA13⟩
 replace hs:=(hs.a_SlO hA13)
 refine lL hs [.v 6 (.agg #[.bool (ineg z),.slice A4 ((lim (iabs z)).length) c5,.slice A10 ((lim 1).length) c11])] (lP 0 0 ([.bool (ineg z),.slice A4 ((lim (iabs z)).length) c5,.slice A10 ((lim 1).length) c11]) hs (fun w16 hs=>?_))
 exact lN (CG.ret (hs.ret [(0,0,3)] (.agg #[.bool (ineg z),.slice A4 ((lim (iabs z)).length) c5,.slice A10 ((lim 1).length) c11]) (by unfold RQ;rw[Rat.num_intCast,Rat.den_intCast];exact ⟨_,_,_,_,rfl,hc6,hc12,(hs.f.2.1),(hs.f.1)⟩)))
theorem rOver (x y:Int)(hy0:y≠0)(h0 : -9223372036854775808≤x)(h1:x<9223372036854775808)(h2 : -9223372036854775808≤y)(h3:y<9223372036854775808)(w:World)(h:Hp)(g:G w h) :
    Calls Tryz.prog 144 #[.int .i64 x,.int .i64 y] w (Ret w h fun v h1=>RQ h1 v (mkR x y)):=by
 have hs:=SS.start g
 have hx_:=lim_small h0 h1
 have hy_:=lim_small h2 h3
 refine go Tryz.func144 [(0,.int .i64 x),(1,.int .i64 y)] rfl ?_
 refine cSL (lA 4 86 ([.bool false,.slice none 0 0,.slice none 0 0]) hs (fun b1 w2 h3 hs=>?_))
 refine lNS (lL hs [.m 5 0] (lC 6 hs (rIntOf x oM oM _ _ hs.g) ?_))
 rintro _ w8 h9 hs ⟨A4,c5,rfl,hc6,hA7⟩
 replace hs:=(hs.a_SlO hA7)
 refine lL hs [.m 7 1] (lC 8 hs (rIntOf y oM oM _ _ hs.g) ?_)
 rintro _ w14 h15 hs ⟨A10,c11,rfl,hc12,hA13⟩
 replace hs:=(hs.a_SlO hA13)
 refine lC 9 hs (rMake x A4 c5 hc6 oM y A10 c11 hc12 oM hy0 _ _ hs.g (hs.f.2.1) (hs.f.1)) ?_
 rintro _ w24 h25 hs ⟨A16,c17,A20,c21,rfl,hc18,hc22,hA19,hA23⟩
 replace hs:=((hs.a_SlO hA19).a_SlO hA23)
 refine lP 0 0 ([.bool (ineg (mkR x y).num),.slice A16 ((lim (iabs (mkR x y).num)).length) c17,.slice A20 ((lim (mkR x y).den).length) c21]) hs (fun w26 hs=>?_)
 exact lN (CG.ret (hs.ret [(0,0,3)] (.agg #[.bool (ineg (mkR x y).num),.slice A16 ((lim (iabs (mkR x y).num)).length) c17,.slice A20 ((lim (mkR x y).den).length) c21]) (by skip;exact ⟨_,_,_,_,rfl,hc18,hc22,(hs.f.2.1),(hs.f.1)⟩)))
theorem opShrU {P:Program}{Γ:Env}{o:Oper}{t u:TypeId}{x y:Operand}{k ky:IntKind}{a n:Nat}(ho:o.op=.binOp .shr t x y u)(hx:ev Γ x=.int k (a:Int))(hy:ev Γ y=.int ky (n:Int))(hn:n≤k.bits)(w:World) :
    (execOp (ev Γ) o).run P w=.ok (.value (.int k ((a/2^n:Nat):Int))) w:=by
  have:=opShr (P:=P) ho hx hy hn w
  rw[show ((a:Int)/2^n)=((a/2^n:Nat):Int) by simp] at this
  exact this
theorem opShlU32 {P:Program}{Γ:Env}{o:Oper}{t u:TypeId}{x y:Operand}{ky:IntKind}{a n:Nat}(ho:o.op=.binOp .shl t x y u)(hx:ev Γ x=.int .u32 (a:Int))(hy:ev Γ y=.int ky (n:Int))(hn:n≤32)(hf:a*2^n<4294967296)(w:World) :
    (execOp (ev Γ) o).run P w=.ok (.value (.int .u32 ((a*2^n:Nat):Int))) w:=by
  have:=opShl (P:=P) ho hx hy hn w
  rw[show ((a:Int)*2^n)=((a*2^n:Nat):Int) by simp,fnU32 hf] at this
  exact this
theorem rNatBytes (a:Nat)(A:Option Addr)(c:Nat)(hc:(lim a).length≤c)(hLa:(lim a).length≤4000000000)(w:World)(h:Hp)(g:G w h)(hA:SlO 1 u32c 0 h A (lim a)) :
    Calls Tryz.prog 224 #[.slice A ((lim a).length) c] w (Ret w h fun v h1=>∃ A,v=.slice A ((nb a+7)/8) ((nb a+7)/8)∧SlO 1 u8c 0 h1 A (byt a ((nb a+7)/8))):=by
 have hs:=SS.start g
 replace hs:=(hs.a_SlO hA)
 have hna:=nb_len a
 refine go Tryz.func224 [(0,.slice A ((lim a).length) c)] rfl ?_
 refine cSL (lL hs [.v 2 (.slice none 0 0)] (lNS (lL hs [.m 6 0] (lC 7 hs (rNatBits a A c hc hLa _ _ hs.g (hs.f.1)) ?_))))
 rintro _ w1 h2 hs rfl
 refine lIn 8 ((nb a:Nat)+7) ((nb a)+7) ?_
 refine lV 9 (.int .i64 (((nb a)+7)/8:Nat)) ?_ (hr:=rint (opQuo (t:=3) (u:=3) (x:=.tmp 8) (y:=.const (.int .i64 8)) (k:=.i64) (a:=(((nb a)+7:Nat):Int)) (b:=(8:Int)) kR kR kR oM _) (quoI64 ((nb a)+7) 8 oM))
 refine lL hs [.m 3 9] (lNS (lL hs [.m 10 3] (lK 11 5 (((nb a)+7)/8:Nat) 1 1 (.int .u8 0) u8c 0 hs (fun b3 w4 h5 hs=>?_))))
 have hl6:(List.replicate (((nb a)+7)/8:Nat) 0).length=(((nb a)+7)/8:Nat):=by simp
 refine lL hs [.m 4 11] (lN (CG.seq (cSL (lL hs [.v 5 (.int .i64 0)] (lN (CG.block (cTo [(0,.slice A ((lim a).length) c),(2,.slice none 0 0),(3,.int .i64 (((nb a)+7)/8:Nat)),(4,.slice (some ⟨b3,0,none⟩) (((nb a)+7)/8:Nat) (((nb a)+7)/8:Nat)),(5,.int .i64 0)] ?_)))))))
 refine CG.loop (fun μ_ Γ w_=>∃ (i:Nat) (l:List Nat) (h_:Hp),μ_=((nb a+7)/8)-i∧Γ=[(0,.slice A ((lim a).length) c),(2,.slice none 0 0),(3,.int .i64 (((nb a)+7)/8:Nat)),(4,.slice (some ⟨b3,0,none⟩) (((nb a)+7)/8:Nat) (((nb a)+7)/8:Nat)),(5,.int .i64 (i:Nat))]∧SS w h w_ h_ [⟨b3,5,(l).flatMap u8c⟩] [] [fun h_=>SlO 1 u32c 0 h_ A (lim a)]∧(i≤((nb a+7)/8))∧(l.length=((nb a+7)/8))∧(∀ j,j<i→l.getD (((nb a+7)/8)-1-j) 0=a/256^j%256)) _ ⟨0,List.replicate (((nb a)+7)/8:Nat) 0,h5,rfl,rfl,hs.to _ _,Nat.zero_le _,hl6,(fun j hj=>absurd hj oM)⟩ ?_
 rintro _ _ w7 ⟨i,l,h8,hm9,rfl,hs,hi,hll,hg⟩
 have hai:=(Ld.lim a).get (i/4)
 refine CG.seq (cSL (lL hs [.m 12 5,.m 13 3] ?_))
 cases hb10:(decide (((i:Nat):Int)<((((nb a)+7)/8:Nat):Int)))
 ·
  have phb10:=oF hb10
  refine lB 14 hb10 ?_
  refine lN (cIF (CG.exit ?_))
  show CG _ _ _ _ _ _ _ _
  refine cSL (lL hs [.m 34 4,.m 2 34] (lN (CG.ret ?_)))
  have him:i=((nb a+7)/8):=by omega
  have hlb:l=byt a ((nb a+7)/8):=eq_byt hll (fun j hj=>hg j oM)
  rw[hlb] at hs
  obtain ⟨h11,hs,sg12,lo13,bc14⟩:=hs.pub 0
  replace hs:=(hs.to [] []).a_SlO (SlO.of_flat (sz:=1) (f:=u8c) (d:=0) (b:=b3) (o:=0) (l:=byt a ((nb a+7)/8)) (fun _=>rfl) sg12)
  exact hs.ret [] (.slice (some ⟨b3,0,none⟩) (((nb a)+7)/8:Nat) (((nb a)+7)/8:Nat)) (⟨some ⟨b3,0,none⟩,rfl,(hs.f.1)⟩)
 have phb10:=oT hb10
 refine lB 14 hb10 ?_
 refine lN (cIT (CG.skipN (CG.seq (CG.block (CG.listed (lL hs [.m 17 4,.m 18 3] (lIn 19 ((((nb a)+7)/8:Nat)-1) ((((nb a)+7)/8:Nat)-1) ?_)))))))
 refine lL hs [.m 20 5] (lIn 21 (((((nb a)+7)/8:Nat)-1:Nat)-(i:Nat)) (((((nb a)+7)/8:Nat)-1:Nat)-i) ?_)
 refine lL hs [.m 22 0,.m 23 5] (lV 24 (.int .i64 (i/4:Nat)) ?_ (hr:=rint (opQuo (t:=3) (u:=3) (x:=.tmp 23) (y:=.const (.int .i64 4)) (k:=.i64) (a:=((i:Nat):Int)) (b:=(4:Int)) kR kR kR oM _) (quoI64 i 4 oM)))
 refine lX 25 A ((lim a).length) c 1 (i/4:Nat) (i/4) ((hs.f.1).ok oM) ?_
 refine lH 26 (.int .u32 ((lim a).getD (i/4) 0:Nat)) hs ((hs.f.1).el (i/4) oM) ?_
 refine lL hs [.m 27 5] (lV 28 (.int .i64 (i%4:Nat)) ?_ (hr:=rint (opRem (t:=3) (u:=3) (x:=.tmp 27) (y:=.const (.int .i64 4)) (k:=.i64) (a:=((i:Nat):Int)) (b:=(4:Int)) kR kR kR oM _) (tmodNat i 4)))
 refine lIn 29 (8*(i%4:Nat)) (8*(i%4)) ?_
 refine lV 30 (.int .u64 (8*(i%4):Nat)) ?_ (hr:=rint (n:=IntKind.wrap .u64 ((8*(i%4):Nat):Int)) kR (fitU64 oM oM))
 refine lV 31 (.int .u32 ((lim a).getD (i/4) 0/2^(8*(i%4)):Nat)) ?_ (hr:=opShrU (t:=262) (u:=235) (x:=.tmp 26) (y:=.tmp 30) (k:=.u32) (ky:=.u64) (a:=(lim a).getD (i/4) 0) (n:=8*(i%4)) kR kR kR (show 8*(i%4)≤32 by omega) _)
 refine lV 32 (.int .u8 ((lim a).getD (i/4) 0/2^(8*(i%4))%256:Nat)) ?_ (hr:=rint (n:=IntKind.wrap .u8 (((lim a).getD (i/4) 0/2^(8*(i%4)):Nat):Int)) kR (wrU8 _))
 refine lX 33 (some ⟨b3,0,none⟩) (((nb a)+7)/8:Nat) (((nb a)+7)/8:Nat) 1 (((((nb a)+7)/8:Nat)-1:Nat)-i:Nat) (((((nb a)+7)/8:Nat)-1:Nat)-i:Nat) rfl ?_
 refine lW 0 l u8c 1 (((((nb a)+7)/8:Nat)-1:Nat)-i:Nat) ((lim a).getD (i/4) 0/2^(8*(i%4))%256:Nat) hs oM (fun w16 hs=>?_)
 have hl17:((l).set (((((nb a)+7)/8:Nat)-1:Nat)-i:Nat) ((lim a).getD (i/4) 0/2^(8*(i%4))%256:Nat)).length=(((nb a)+7)/8:Nat):=by rw[List.length_set];exact hll
 replace hs:=hs.to [⟨b3,5,((l).set (((((nb a)+7)/8:Nat)-1:Nat)-i:Nat) ((lim a).getD (i/4) 0/2^(8*(i%4))%256:Nat)).flatMap u8c⟩] []
 refine lN (CG.listed (lL hs [.m 15 5] (lIn 16 ((i:Nat)+1) (i+1) ?_)))
 refine lL hs [.m 5 16] (lD ?_)
 intro a_ ka
 have q18:(i+1)≤((nb a+7)/8):=by omega
 have q19:((l).set (((((nb a)+7)/8:Nat)-1:Nat)-i:Nat) ((lim a).getD (i/4) 0/2^(8*(i%4))%256:Nat)).length=((nb a+7)/8):=hl17
 have q20:∀ j,j<(i+1)→((l).set (((((nb a)+7)/8:Nat)-1:Nat)-i:Nat) ((lim a).getD (i/4) 0/2^(8*(i%4))%256:Nat)).getD (((nb a+7)/8)-1-j) 0=a/256^j%256:=(set_from_top hll oM hg (byte_lim a i))
 refine ⟨_,_,?_,⟨i+1,(l).set (((((nb a)+7)/8:Nat)-1:Nat)-i:Nat) ((lim a).getD (i/4) 0/2^(8*(i%4))%256:Nat),h8,rfl,rfl,hs.to _ _,q18,q19,q20⟩,ka.to [(0,.slice A ((lim a).length) c),(2,.slice none 0 0),(3,.int .i64 (((nb a)+7)/8:Nat)),(4,.slice (some ⟨b3,0,none⟩) (((nb a)+7)/8:Nat) (((nb a)+7)/8:Nat)),(5,.int .i64 ((i+1):Nat))] kR⟩
 omega
theorem lowL_init {n m:Nat}(h:n<256^m):∀ j,j<(m+3)/4→(List.replicate ((m+3)/4) 0).getD j 0=lowL n (m-0) j:=fun j hj=>by
  rw[Nat.sub_zero,lowL_top h];simp[hj]
theorem lowL_next {l:List Nat}{n m i x:Nat}(hi:i<m)(hl:l.length=(m+3)/4)(hv:∀ j,j<(m+3)/4→l.getD j 0=lowL n (m-i) j)(hx:x=lowL n (m-1-i) ((m-1-i)/4)) :
    ∀ j,j<(m+3)/4→(l.set ((m-1-i)/4) x).getD j 0=lowL n (m-(i+1)) j:=by
  intro j hj
  rw[show m-(i+1)=m-1-i by omega]
  by_cases e:j=(m-1-i)/4
  · subst e
    have:(m-1-i)/4<l.length:=by omega
    simp[this,hx]
  · rw[lowL_step,if_neg e,show m-1-i+1=m-i by omega,←hv j hj]
    simp only[List.getD_eq_getElem?_getD]
    rw[List.getElem?_set_ne (Ne.symm e)]
theorem from_or {n k:Nat}:lowL n (k+1) (k/4) ||| (n/256^k%256)*2^(8*(k%4))=lowL n k (k/4):=by rw[lowL_step n k (k/4),if_pos rfl]
theorem shl_fit32 {b k:Nat}(hb:b<256):b*2^(8*(k%4))<4294967296:=by
  have:k%4=0∨k%4=1∨k%4=2∨k%4=3:=by omega
  rcases this with e|e|e|e<;>rw[e]<;>omega
theorem from_fin {l:List Nat}{n m:Nat}(hn:n<256^m)(hl:l.length=(m+3)/4)(hv:∀ j,j<(m+3)/4→l.getD j 0=lowL n (m-m) j):bval 4294967296 l=n∧Ld l:=by
  constructor
  · rw[←nval_bval]
    refine nval_of_digits l n (fun j hj=>by rw[hv j oM,Nat.sub_self,lowL_zero]) ?_
    refine Nat.lt_of_lt_of_le hn ?_
    rw[hl,show (256:Nat)=2^8 by rfl,show (4294967296:Nat)=2^32 by rfl,←Nat.pow_mul,←Nat.pow_mul]
    exact Nat.pow_le_pow_right oM oM
  · intro x hx
    obtain ⟨j,hj,rfl⟩:=List.mem_iff_getElem.1 hx
    have:=hv j oM
    have e:l[j]=l.getD j 0:=by simp[hj]
    rw[e,this]
    exact lowL_lt _ _ _
theorem rNatFrom (n m:Nat)(A:Option Addr)(cap:Nat)(hc:m≤cap)(hm:m≤1099511627776)(hn:n<256^m)(w:World)(h:Hp)(g:G w h)(hA:SlO 1 u8c 0 h A (byt n m)) :
    Calls Tryz.prog 232 #[.slice A m cap] w (Ret w h fun v h1=>RN h1 v n):=by
 have hs:=SS.start g
 replace hs:=(hs.a_SlO hA)
 have hbl:=byt_len n m
 refine go Tryz.func232 [(0,.slice A m cap)] rfl ?_
 refine cSL (lL hs [.v 2 (.slice none 0 0)] (lNS (lL hs [.m 6 0,.v 7 (.int .i64 (m:Nat))] (lIn 8 ((m:Nat)+3) (m+3) ?_))))
 refine lV 9 (.int .i64 ((m+3)/4:Nat)) ?_ (hr:=rint (opQuo (t:=3) (u:=3) (x:=.tmp 8) (y:=.const (.int .i64 4)) (k:=.i64) (a:=((m+3:Nat):Int)) (b:=(4:Int)) kR kR kR oM _) (quoI64 (m+3) 4 oM))
 refine lK 10 262 ((m+3)/4) 1 4 (.int .u32 0) u32c 0 hs (fun b1 w2 h3 hs=>?_)
 have hl4:(List.replicate ((m+3)/4) 0).length=((m+3)/4):=by simp
 refine lL hs [.m 3 10] (lN (CG.seq (cSL (lL hs [.v 4 (.int .i64 0)] (lN (CG.block (cTo [(0,.slice A m cap),(2,.slice none 0 0),(3,.slice (some ⟨b1,0,none⟩) ((m+3)/4) ((m+3)/4)),(4,.int .i64 0)] ?_)))))))
 refine CG.loop (fun μ_ Γ w_=>∃ (i:Nat) (l:List Nat) (h_:Hp),μ_=m-i∧Γ=[(0,.slice A m cap),(2,.slice none 0 0),(3,.slice (some ⟨b1,0,none⟩) ((m+3)/4) ((m+3)/4)),(4,.int .i64 (i:Nat))]∧SS w h w_ h_ [⟨b1,262,(l).flatMap u32c⟩] [] [fun h_=>SlO 1 u8c 0 h_ A (byt n m)]∧(i≤m)∧(l.length=(m+3)/4)∧(∀ j,j<(m+3)/4→l.getD j 0=lowL n (m-i) j)) _ ⟨0,List.replicate ((m+3)/4) 0,h3,rfl,rfl,hs.to _ _,Nat.zero_le _,hl4,(lowL_init hn)⟩ ?_
 rintro _ _ w5 ⟨i,l,h6,hm7,rfl,hs,hi,hll,hv⟩
 refine CG.seq (cSL (lL hs [.m 11 4,.m 12 0,.v 13 (.int .i64 (m:Nat))] ?_))
 cases hb8:(decide (((i:Nat):Int)<((m:Nat):Int)))
 ·
  have phb8:=oF hb8
  refine lB 14 hb8 ?_
  refine lN (cIF (CG.exit ?_))
  show CG _ _ _ _ _ _ _ _
  refine cSL (lL hs [.m 42 3] ?_)
  have him:i=m:=by omega
  rw[him] at hv
  obtain ⟨hf1,hf2⟩:=from_fin hn hll hv
  obtain ⟨h9,hs,sg10,lo11,bc12⟩:=hs.pub 0
  replace hs:=(hs.to [] []).a_SlO (SlO.of_flat (sz:=1) (f:=u32c) (d:=0) (b:=b1) (o:=0) (l:=l) (fun _=>rfl) sg10)
  refine lC 43 hs (rTrim (some ⟨b1,0,none⟩) ((m+3)/4) l ((m+3)/4) hll oM oM _ _ hs.g (hs.f.1)) ?_
  rintro _ w14 h15 hs rfl
  exact lL hs [.m 2 43] (lN (CG.ret (hs.ret [] (.slice (some ⟨b1,0,none⟩) (tl l ((m+3)/4)) ((m+3)/4)) (RN.trim hf2 hf1 hll oM (hs.f.1)))))
 have phb8:=oT hb8
 refine lB 14 hb8 ?_
 refine lN (cIT (CG.skipN (CG.seq (CG.block (cSL (lL hs [.m 17 0,.v 18 (.int .i64 (m:Nat))] (lIn 19 ((m:Nat)-1) (m-1) ?_)))))))
 refine lL hs [.m 20 4] (lIn 21 ((m-1:Nat)-(i:Nat)) ((m-1)-i) ?_)
 refine lL hs [.m 5 21] (lN (cR 19 [] mixed hs al_nil ?_))
 refine eV 0 22 (.slice (some ⟨b1,0,none⟩) ((m+3)/4) ((m+3)/4)) ?_
 refine eV 1 23 (.int .i64 ((m-1)-i:Nat)) ?_
 refine eV 2 24 (.int .i64 (((m-1)-i)/4:Nat)) ?_ (hv:=fun _=>rint (opQuo (t:=3) (u:=3) (x:=.tmp 23) (y:=.const (.int .i64 4)) (k:=.i64) (a:=(((m-1)-i:Nat):Int)) (b:=(4:Int)) kR kR kR oM _) (quoI64 ((m-1)-i) 4 oM))
 refine eV 3 25 (.slice (some ⟨b1,0,none⟩) ((m+3)/4) ((m+3)/4)) ?_
 refine eV 4 26 (.int .i64 ((m-1)-i:Nat)) ?_
 refine eV 5 27 (.int .i64 (((m-1)-i)/4:Nat)) ?_ (hv:=fun _=>rint (opQuo (t:=3) (u:=3) (x:=.tmp 26) (y:=.const (.int .i64 4)) (k:=.i64) (a:=(((m-1)-i:Nat):Int)) (b:=(4:Int)) kR kR kR oM _) (quoI64 ((m-1)-i) 4 oM))
 refine eX 6 28 (some ⟨b1,0,none⟩) ((m+3)/4) ((m+3)/4) 1 (((m-1)-i)/4:Nat) (((m-1)-i)/4:Nat) rfl ?_
 refine eQ 7 29 0 l u32c 1 0 (((m-1)-i)/4:Nat) (.int .u32 ((l).getD (((m-1)-i)/4:Nat) 0:Nat)) hs oM ?_
 refine eV 8 30 (.slice A m cap) ?_
 refine eV 9 31 (.int .i64 (i:Nat)) ?_
 refine eX 10 32 A m cap 1 (i:Nat) i ((hs.f.1).ok oM) ?_
 have hvk:=hv ((m-1-i)/4) oM
 have hor:l.getD ((m-1-i)/4) 0 ||| (n/256^(m-1-i)%256)*2^(8*((m-1-i)%4))=lowL n (m-1-i) ((m-1-i)/4):=by rw[hvk,show m-i=m-1-i+1 by omega];exact from_or
 have hlt:l.getD ((m-1-i)/4) 0<4294967296:=by rw[hvk];exact lowL_lt _ _ _
 have hvk:=hv ((m-1-i)/4) oM
 have hor:l.getD ((m-1-i)/4) 0 ||| (n/256^(m-1-i)%256)*2^(8*((m-1-i)%4))=lowL n (m-1-i) ((m-1-i)/4):=by rw[hvk,show m-i=m-1-i+1 by omega];exact from_or
 have hlt:l.getD ((m-1-i)/4) 0<4294967296:=by rw[hvk];exact lowL_lt _ _ _
 refine eHe 11 33 (.int .u8 ((byt n m).getD i 0:Nat)) hs ((hs.f.1).el i oM) (by rw[byt_get n m _ oM]) ?_
 refine eV 12 34 (.int .u32 (n/256^(m-1-i)%256:Nat)) ?_ (hv:=fun _=>rint (n:=IntKind.wrap .u32 ((n/256^(m-1-i)%256:Nat):Int)) kR (fitU32 oM oM))
 refine eV 13 35 (.int .i64 ((m-1)-i:Nat)) ?_
 refine eV 14 36 (.int .i64 (((m-1)-i)%4:Nat)) ?_ (hv:=fun _=>rint (opRem (t:=3) (u:=3) (x:=.tmp 35) (y:=.const (.int .i64 4)) (k:=.i64) (a:=(((m-1)-i:Nat):Int)) (b:=(4:Int)) kR kR kR oM _) (tmodNat ((m-1)-i) 4))
 refine eIn 15 37 (8*(((m-1)-i)%4:Nat)) (8*(((m-1)-i)%4:Nat)) ?_
 refine eV 16 38 (.int .u64 (8*(((m-1)-i)%4:Nat):Nat)) ?_ (hv:=fun _=>rint (n:=IntKind.wrap .u64 ((8*(((m-1)-i)%4:Nat):Nat):Int)) kR (fitU64 oM oM))
 refine eV 17 39 (.int .u32 ((n/256^(m-1-i)%256)*2^(8*((m-1-i)%4)):Nat)) ?_ (hv:=fun _=>opShlU32 (t:=262) (u:=235) (x:=.tmp 34) (y:=.tmp 38) (ky:=.u64) (a:=n/256^(m-1-i)%256) (n:=8*((m-1-i)%4)) kR kR kR oM (shl_fit32 oM) _)
 refine eV 18 40 (.int .u32 (lowL n (m-1-i) ((m-1-i)/4):Nat)) ?_ (hv:=fun _=>rint (opOr32 (t:=262) (u:=262) (x:=.tmp 29) (y:=.tmp 39) (a:=l.getD ((m-1-i)/4) 0) (b:=(n/256^(m-1-i)%256)*2^(8*((m-1-i)%4))) kR kR kR hlt (shl_fit32 oM) _) (congrArg Int.ofNat hor))
 refine eD0 hs (fun w16 h17 hs=>?_)
 refine tX 19 41 (some ⟨b1,0,none⟩) ((m+3)/4) ((m+3)/4) 1 (((m-1)-i)/4:Nat) (((m-1)-i)/4:Nat) rfl ?_
 refine tW 20 0 l u32c 1 (((m-1)-i)/4:Nat) (lowL n (m-1-i) ((m-1-i)/4):Nat) hs oM (fun w18 hs=>?_)
 have hl19:((l).set (((m-1)-i)/4:Nat) (lowL n (m-1-i) ((m-1-i)/4):Nat)).length=((m+3)/4):=by rw[List.length_set];exact hll
 replace hs:=hs.to [⟨b1,262,((l).set (((m-1)-i)/4:Nat) (lowL n (m-1-i) ((m-1-i)/4):Nat)).flatMap u32c⟩] []
 refine tN (CG.listed (lL hs [.m 15 4] (lIn 16 ((i:Nat)+1) (i+1) ?_)))
 refine lL hs [.m 4 16] (lD ?_)
 intro a_ ka
 have q20:(i+1)≤m:=by omega
 have q21:((l).set (((m-1)-i)/4:Nat) (lowL n (m-1-i) ((m-1-i)/4):Nat)).length=(m+3)/4:=hl19
 have q22:∀ j,j<(m+3)/4→((l).set (((m-1)-i)/4:Nat) (lowL n (m-1-i) ((m-1-i)/4):Nat)).getD j 0=lowL n (m-(i+1)) j:=(lowL_next oM hll hv rfl)
 refine ⟨_,_,?_,⟨i+1,(l).set (((m-1)-i)/4:Nat) (lowL n (m-1-i) ((m-1-i)/4):Nat),h17,rfl,rfl,hs.to _ _,q20,q21,q22⟩,ka.to [(0,.slice A m cap),(2,.slice none 0 0),(3,.slice (some ⟨b1,0,none⟩) ((m+3)/4) ((m+3)/4)),(4,.int .i64 ((i+1):Nat))] kR⟩
 omega
def qabs (q:Rat):Rat:=if q.num<0 then -q else q
theorem qabs_num (q:Rat):(qabs q).num=((iabs q.num:Nat):Int):=by
  unfold qabs iabs;split
  · rw[Rat.neg_num];omega
  · omega
theorem qabs_den (q:Rat):(qabs q).den=q.den:=by
  unfold qabs;split
  · rw[Rat.neg_den]
  · rfl
theorem LQ.ln {q:Rat}(h:LQ 100000000 q):(lim (iabs q.num)).length≤300000000:=Nat.le_trans (lim_wds _) (by have:=h.1;omega)
theorem LQ.ld {q:Rat}(h:LQ 100000000 q):(lim q.den).length≤300000000:=Nat.le_trans (lim_wds _) (by have:=h.2;omega)
theorem LQ.abs {k:Nat}{q:Rat}(h:LQ k q):LQ k (qabs q):=⟨by rw[qabs_num];exact h.1,by rw[qabs_den];exact h.2⟩
theorem LQ.inv {k:Nat}{q:Rat}(h:LQ k q):LQ k q⁻¹:=by
  by_cases hz:q.num=0
  · have:q=0:=by rw[←Rat.num_eq_zero];exact hz
    subst this;rw[Rat.inv_zero];exact h
  · obtain ⟨h1,h2⟩:=rat_inv q hz
    exact ⟨by rw[h1,iabs_sgn];exact h.2,by rw[h2];exact h.1⟩
theorem LQ.div {k l:Nat}{a b:Rat}(ha:LQ k a)(hb:LQ l b):LQ (k+l) (a/b):=by rw[Rat.div_def];exact ha.mul hb.inv
theorem LQ.int {z:Int}(h0 : -9223372036854775808≤z)(h1:z≤9223372036854775807):LQ 1 (z:Rat):=⟨by rw[Rat.num_intCast];exact wds_len_lit.2 (by unfold iabs;omega),by rw[Rat.den_intCast];exact wds_len_lit.2 oM⟩
theorem LQ.lit {z:Int}(h : -9223372036854775808≤z∧z≤9223372036854775807):LQ 1 (z:Rat):=LQ.int h.1 h.2
def dotq (a b:List Rat):Nat→Rat
  | 0=>0
  | k+1=>dotq a b k+a.getD k 0*b.getD k 0
theorem LQ.dot {a b:List Rat}{k l n:Nat}(ha:∀ i,i<n→LQ k (a.getD i 0))(hb:∀ i,i<n→LQ l (b.getD i 0)):∀ i,i≤n→LQ (i*(k+l+1)+1) (dotq a b i)
  | 0,_=>by rw[Nat.zero_mul];exact LQ.lit (z:=0) kD
  | i+1,h=>by
    have h1:=(LQ.dot ha hb i oM).add ((ha i oM).mul (hb i oM))
    refine LQ.mono h1 ?_
    rw[Nat.succ_mul];omega
theorem hNat (a:Nat)(A:Option Addr)(c:Nat)(hc:(lim a).length≤c)(hl:(lim a).length≤300000000)(w:World)(h:Hp)(g:G w h)(hA:SlO 1 u32c 0 h A (lim a)) :
    Calls Tryz.prog 168 #[.slice A ((lim a).length) c] w (Ret w h fun v _=>v=nv a):=by
 have hs:=SS.start g
 replace hs:=(hs.a_SlO hA)
 have hnb:=nb_len a
 refine go Tryz.func168 [(0,.slice A ((lim a).length) c)] rfl ?_
 refine cSL (lA 2 70 ([.int .u64 0,.string ⟨#[]⟩]) hs (fun b1 w2 h3 hs=>?_))
 refine lNS (lL hs [.m 3 0] (lC 4 hs (rNatBytes a A c hc oM _ _ hs.g (hs.f.1)) ?_))
 rintro _ w6 h7 hs ⟨A4,rfl,hA5⟩
 replace hs:=(hs.a_SlO hA5)
 refine lC 5 hs (nFromB a ((nb a+7)/8) A4 ((nb a+7)/8) (Nat.le_refl _) oM (lt256 a) _ _ hs.g (hs.f.1)) ?_
 rintro _ w8 h9 hs rfl
 refine lP 0 0 (nc a) hs (fun w10 hs=>?_)
 exact lN (CG.ret (hs.ret [(0,0,2)] (nv a) rfl))
theorem hInt (z:Int)(A:Option Addr)(c:Nat)(hc:(lim (iabs z)).length≤c)(hl:(lim (iabs z)).length≤300000000)(w:World)(h:Hp)(g:G w h)(hA:SlO 1 u32c 0 h A (lim (iabs z))) :
    Calls Tryz.prog 167 #[.agg #[.bool (ineg z),.slice A ((lim (iabs z)).length) c]] w (Ret w h fun v _=>v=iv z):=by
 have hs:=SS.start g
 replace hs:=(hs.a_SlO hA)
 have hwl:=wds_lim (iabs z)
 refine go Tryz.func167 [(0,.agg #[.bool (ineg z),.slice A ((lim (iabs z)).length) c])] rfl ?_
 refine cSL (lA 1 84 ([.bool (ineg z),.slice A ((lim (iabs z)).length) c]) hs (fun b1 w2 h3 hs=>?_))
 refine lA 2 72 ([.bool false,.int .u64 0,.string ⟨#[]⟩]) hs (fun b4 w5 h6 hs=>?_)
 refine lN (CG.seq (cR 6 [] mixed hs al_nil ?_))
 refine eV 0 3 (.pointer (some ⟨b1,0,none⟩)) ?_
 refine eO 1 4 [(1,0,1)] (.bool (ineg z)) hs ?_
 refine eV 2 5 (.pointer (some ⟨b1,1,none⟩)) ?_
 refine eO 3 6 [(1,1,1)] (.slice A ((lim (iabs z)).length) c) hs ?_
 refine eC 4 7 hs (fun _ _ hs=>hNat (iabs z) A c hc (by first|exact hl|exact LQ.ld hq|omega) _ _ hs.g (hs.f.1)) ?_
 rintro _ _ _ w7 h8 hs rfl
 refine eC 5 8 hs (fun _ _ hs=>wFrom (ineg z) (iabs z) oM _ _ hs.g) ?_
 rintro _ _ _ w9 h10 hs rfl
 refine eD0 hs (fun w11 h12 hs=>?_)
 refine tP 6 0 0 (ic (sgn (ineg z) (iabs z))) hs (fun w13 hs=>?_)
 exact tN (CG.ret (hs.ret [(0,0,3)] (iv (sgn (ineg z) (iabs z))) (congrArg iv (sgn_self z))))
theorem mkR_self (q:Rat):mkR q.num ((q.den:Nat):Int)=q:=by
  unfold mkR;rw[if_neg oM];show mkRat q.num q.den=q;rw[Rat.mkRat_self]
theorem hIn (q:Rat)(A1:Option Addr)(c1:Nat)(D1:Option Addr)(d1:Nat)(hc1:(lim (iabs q.num)).length≤c1)(hd1:(lim q.den).length≤d1)(hq:LQ 100000000 q)(w:World)(h:Hp)(g:G w h)(hA1:SlO 1 u32c 0 h A1 (lim (iabs q.num)))(hD1:SlO 1 u32c 0 h D1 (lim q.den))(tb:Tab h) :
    Calls Tryz.prog 88 #[.agg #[.bool (ineg q.num),.slice A1 ((lim (iabs q.num)).length) c1,.slice D1 ((lim q.den).length) d1]] w (Ret w h fun v _=>v=qv q):=by
 have hs:=SS.start g
 replace hs:=(((hs.a_SlO hA1).a_SlO hD1).add (K:=fun h_=>Tab h_) tb)
 refine go Tryz.func88 [(0,.agg #[.bool (ineg q.num),.slice A1 ((lim (iabs q.num)).length) c1,.slice D1 ((lim q.den).length) d1])] rfl ?_
 refine cSL (lA 1 86 ([.bool (ineg q.num),.slice A1 ((lim (iabs q.num)).length) c1,.slice D1 ((lim q.den).length) d1]) hs (fun b1 w2 h3 hs=>?_))
 refine lA 2 74 ([.bool false,.int .u64 0,.string ⟨#[]⟩,.int .u64 0,.string ⟨#[]⟩]) hs (fun b4 w5 h6 hs=>?_)
 refine lN (CG.seq ?_)
 have hsr:=hs
 refine cR 12 [⟨11,3,.cells (List.toArray [.bool false,.int .u64 0,.string ⟨#[]⟩,.int .u64 0,.string ⟨#[]⟩]) 74 (0,0)⟩] mixed hs (al_cons (alOk kR (fun _ _=>by kernel_rfl)) al_nil) ?_
 refine eV 0 6 (.pointer (some ⟨b1,0,none⟩)) ?_
 refine eO 1 7 [(1,0,2)] (.agg #[.bool (ineg q.num),.slice A1 ((lim (iabs q.num)).length) c1]) hs ?_
 refine eV 3 9 (.pointer (some ⟨b1,2,none⟩)) ?_
 refine eO 4 10 [(1,2,1)] (.slice D1 ((lim q.den).length) d1) hs ?_
 refine eC 2 8 hs (fun _ _ hs=>hInt q.num A1 c1 hc1 (LQ.ln hq) _ _ hs.g (hs.f.2.2.1)) ?_
 rintro _ _ _ w7 h8 hs rfl
 refine eC 5 11 hs (fun _ _ hs=>hNat q.den D1 d1 hd1 (by first|exact hl|exact LQ.ld hq|omega) _ _ hs.g (hs.f.2.1)) ?_
 rintro _ _ _ w9 h10 hs rfl
 refine eC 6 12 hs (fun _ _ hs=>wFromN q.den _ _ hs.g) ?_
 rintro _ _ _ w11 h12 hs rfl
 refine eC 7 13 hs (fun _ _ hs=>fMake q.num ((q.den:Nat):Int) (by have:=q.den_pos;omega) (by have:=hq.1;omega) (by show (wds q.den).length≤_;have:=hq.2;omega) _ _ hs.g (hs.f.1)) ?_
 rintro _ _ _ w13 h14 hs rfl
 refine eV 8 5 (.tuple #[qv (mkR q.num ((q.den:Nat):Int)),.bool true]) ?_
 refine eV 9 14 (qv (mkR q.num ((q.den:Nat):Int))) ?_
 refine eV 10 15 (.bool true) ?_
 refine eD1p [] hsr hs 74 [.bool false,.int .u64 0,.string ⟨#[]⟩,.int .u64 0,.string ⟨#[]⟩] (fun w15 h16 b17 hs=>?_)
 refine tP 12 0 0 (qc (mkR q.num ((q.den:Nat):Int))) hs (fun w18 hs=>?_)
 refine tV 13 4 (.bool true) ?_
 refine tNS ?_
 refine lL hs [.o 16 (qv (mkR q.num ((q.den:Nat):Int))) 0 0 5] (lP 1 0 (qc (mkR q.num ((q.den:Nat):Int))) hs (fun w19 hs=>?_))
 exact lN (CG.ret (hs.ret [(1,0,5)] (qv (mkR q.num ((q.den:Nat):Int))) (congrArg qv (mkR_self q))))
theorem hInV (v:Value)(q:Rat)(hq:LQ 100000000 q)(w:World)(h:Hp)(g:G w h)(hv:RQ h v q)(tb:Tab h):Calls Tryz.prog 88 #[v] w (Ret w h fun v _=>v=qv q):=by
  obtain ⟨A,c,B,d,rfl,h1,h2,h3,h4⟩:=hv
  exact hIn q A c B d h1 h2 hq w h g h3 h4 tb
theorem hOutNat (n:Nat)(hl:(wds n).length≤100000000)(w:World)(h:Hp)(g:G w h) :
    Calls Tryz.prog 186 #[nv n] w (Ret w h fun v h1=>RN h1 v n):=by
 have hs:=SS.start g
 have hnb:=nb_len64 n
 refine go Tryz.func186 [(0,nv n)] rfl ?_
 refine cSL (lA 1 70 (nc n) hs (fun b1 w2 h3 hs=>?_))
 refine lL hs [.v 2 (.slice none 0 0)] (lNS (lL hs [.o 3 (nv n) 0 0 2] (lC 4 hs (nBytes n oM _ _ hs.g) ?_)))
 rintro _ w6 h7 hs ⟨A4,rfl,hA5⟩
 replace hs:=(hs.a_SlO hA5)
 refine lC 5 hs (rNatFrom n ((nb n+7)/8) A4 ((nb n+7)/8) (Nat.le_refl _) oM (lt256 n) _ _ hs.g (hs.f.1)) ?_
 rintro _ w12 h13 hs ⟨A8,c9,rfl,hc10,hA11⟩
 replace hs:=(hs.a_SlO hA11)
 exact lL hs [.m 2 5] (lN (CG.ret (hs.ret [] (.slice A8 ((lim n).length) c9) (⟨_,_,rfl,hc10,(hs.f.1)⟩))))
theorem sgn_sgn (z:Int):sgn (decide (z.sign<(0:Int))) (iabs z)=z:=by
  rcases Int.lt_trichotomy z 0 with h|h|h
  · rw[Int.sign_eq_neg_one_of_neg h];unfold sgn iabs;simp;omega
  · subst h;rfl
  · rw[Int.sign_eq_one_of_pos h];unfold sgn iabs;simp;omega
theorem hOutInt (z:Int)(hl:(wds (iabs z)).length≤100000000)(w:World)(h:Hp)(g:G w h) :
    Calls Tryz.prog 184 #[iv z] w (Ret w h fun v h1=>RI h1 v z):=by
 have hs:=SS.start g
 refine go Tryz.func184 [(0,iv z)] rfl ?_
 refine cSL (lA 1 72 (ic z) hs (fun b1 w2 h3 hs=>?_))
 refine lA 2 84 ([.bool false,.slice none 0 0]) hs (fun b4 w5 h6 hs=>?_)
 refine lN (CG.seq (cR 7 [] mixed hs al_nil ?_))
 refine eO 0 3 [(1,0,3)] (iv z) hs ?_
 refine eO 3 6 [(1,0,3)] (iv z) hs ?_
 refine eC 1 4 hs (fun _ _ hs=>wSign z oM _ _ hs.g) ?_
 rintro _ _ _ w7 h8 hs rfl
 refine eV 2 5 (.bool (decide ((z.sign:Int)<(0:Int)))) ?_
 refine eC 4 7 hs (fun _ _ hs=>wAbs z _ _ hs.g) ?_
 rintro _ _ _ w9 h10 hs rfl
 refine eC 5 8 hs (fun _ _ hs=>hOutNat (iabs z) (by first|exact hq.2|omega) _ _ hs.g) ?_
 rintro _ _ _ w15 h16 hs ⟨A11,c12,rfl,hc13,hA14⟩
 replace hs:=(hs.a_SlO hA14)
 refine eC 6 9 hs (fun _ _ hs=>rI (decide ((z.sign:Int)<(0:Int))) (iabs z) A11 c12 hc13 _ _ hs.g (hs.f.1)) ?_
 rintro _ _ _ w21 h22 hs ⟨A17,c18,rfl,hc19,hA20⟩
 replace hs:=(hs.a_SlO hA20)
 refine eD0 hs (fun w23 h24 hs=>?_)
 refine tP 7 0 0 ([.bool (ineg (sgn (decide ((z.sign:Int)<(0:Int))) (iabs z))),.slice A17 ((lim (iabs (sgn (decide ((z.sign:Int)<(0:Int))) (iabs z)))).length) c18]) hs (fun w25 hs=>?_)
 exact tN (CG.ret (hs.ret [(0,0,2)] (.agg #[.bool (ineg (sgn (decide ((z.sign:Int)<(0:Int))) (iabs z))),.slice A17 ((lim (iabs (sgn (decide ((z.sign:Int)<(0:Int))) (iabs z)))).length) c18]) (by rw[sgn_sgn] at *;exact ⟨_,_,rfl,hc19,(hs.f.1)⟩)))
theorem hOut (q:Rat)(hq:LQ 100000000 q)(w:World)(h:Hp)(g:G w h) :
    Calls Tryz.prog 112 #[qv q] w (Ret w h fun v h1=>RQ h1 v q):=by
 have hs:=SS.start g
 refine go Tryz.func112 [(0,qv q)] rfl ?_
 refine cSL (lA 1 74 (qc q) hs (fun b1 w2 h3 hs=>?_))
 refine lA 2 86 ([.bool false,.slice none 0 0,.slice none 0 0]) hs (fun b4 w5 h6 hs=>?_)
 refine lN (CG.seq (cR 7 [] mixed hs al_nil ?_))
 refine eO 0 3 [(1,0,5)] (qv q) hs ?_
 refine eO 3 6 [(1,0,5)] (qv q) hs ?_
 refine eC 1 4 hs (fun _ _ hs=>fNum q _ _ hs.g) ?_
 rintro _ _ _ w7 h8 hs rfl
 refine eC 2 5 hs (fun _ _ hs=>hOutInt q.num hq.1 _ _ hs.g) ?_
 rintro _ _ _ w13 h14 hs ⟨A9,c10,rfl,hc11,hA12⟩
 replace hs:=(hs.a_SlO hA12)
 refine eC 4 7 hs (fun _ _ hs=>fDen q hq _ _ hs.g) ?_
 rintro _ _ _ w15 h16 hs rfl
 refine eC 5 8 hs (fun _ _ hs=>hOutNat q.den (by first|exact hq.2|omega) _ _ hs.g) ?_
 rintro _ _ _ w21 h22 hs ⟨A17,c18,rfl,hc19,hA20⟩
 replace hs:=(hs.a_SlO hA20)
 refine eV 6 9 (.agg #[.bool (ineg q.num),.slice A9 ((lim (iabs q.num)).length) c10,.slice A17 ((lim q.den).length) c18]) ?_
 refine eD0 hs (fun w23 h24 hs=>?_)
 refine tP 7 0 0 ([.bool (ineg q.num),.slice A9 ((lim (iabs q.num)).length) c10,.slice A17 ((lim q.den).length) c18]) hs (fun w25 hs=>?_)
 exact tN (CG.ret (hs.ret [(0,0,3)] (.agg #[.bool (ineg q.num),.slice A9 ((lim (iabs q.num)).length) c10,.slice A17 ((lim q.den).length) c18]) (⟨_,_,_,_,rfl,hc11,hc19,(hs.f.2.1),(hs.f.1)⟩)))
def sameQ (a b:Rat):Bool:=decide (a=b)
theorem sameQ_t {a b:Rat}(h1:cmpN (iabs a.num) (iabs b.num)=0)(h2:ineg a.num=ineg b.num)(h3:cmpN a.den b.den=0):true=sameQ a b:=by
  have e1:iabs a.num=iabs b.num:=by unfold cmpN at h1;split at h1;omega;split at h1;omega;omega
  have e3:a.den=b.den:=by unfold cmpN at h3;split at h3;omega;split at h3;omega;omega
  have e2:a.num=b.num:=by rw[←sgn_self a.num,←sgn_self b.num,e1,h2]
  symm
  exact decide_eq_true (Rat.ext e2 e3)
theorem cmpN_self (a:Nat):cmpN a a=0:=by simp[cmpN]
theorem sameQ_f {a b:Rat}(h:cmpN (iabs a.num) (iabs b.num)≠0∨ineg a.num≠ineg b.num∨cmpN a.den b.den≠0):false=sameQ a b:=by
  symm
  refine decide_eq_false ?_
  rintro rfl
  rcases h with h|h|h
  · exact h (cmpN_self _)
  · exact h rfl
  · exact h (cmpN_self _)
theorem hSame (q r:Rat)(hq:LQ 100000000 q)(hr:LQ 100000000 r)(A1:Option Addr)(c1:Nat)(D1:Option Addr)(d1:Nat)(hc1:(lim (iabs r.num)).length≤c1)(hd1:(lim r.den).length≤d1)(w:World)(h:Hp)(g:G w h)(hA1:SlO 1 u32c 0 h A1 (lim (iabs r.num)))(hD1:SlO 1 u32c 0 h D1 (lim r.den)) :
    Calls Tryz.prog 39 #[qv q,.agg #[.bool (ineg r.num),.slice A1 ((lim (iabs r.num)).length) c1,.slice D1 ((lim r.den).length) d1]] w (Ret w h fun v _=>v=.bool (sameQ q r)):=by
 have hs:=SS.start g
 replace hs:=((hs.a_SlO hA1).a_SlO hD1)
 have hpd:0<(lim r.den).length:=lim_pos.2 r.den_pos
 have hq1:=LQ.ln hq
 have hq2:=LQ.ld hq
 have hr1:=LQ.ln hr
 have hr2:=LQ.ld hr
 refine go Tryz.func39 [(0,qv q),(1,.agg #[.bool (ineg r.num),.slice A1 ((lim (iabs r.num)).length) c1,.slice D1 ((lim r.den).length) d1])] rfl ?_
 refine cSL (lA 2 74 (qc q) hs (fun b1 w2 h3 hs=>?_))
 refine lA 3 86 ([.bool (ineg r.num),.slice A1 ((lim (iabs r.num)).length) c1,.slice D1 ((lim r.den).length) d1]) hs (fun b4 w5 h6 hs=>?_)
 refine lL hs [.v 4 (.bool false)] (lNS (lL hs [.o 6 (qv q) 1 0 5] (lC 7 hs (hOut q hq _ _ hs.g) ?_)))
 rintro _ w15 h16 hs ⟨A7,c8,A11,c12,rfl,hc9,hc13,hA10,hA14⟩
 replace hs:=((hs.a_SlO hA10).a_SlO hA14)
 refine lA 5 86 ([.bool false,.slice none 0 0,.slice none 0 0]) hs (fun b17 w18 h19 hs=>?_)
 refine lP 0 0 ([.bool (ineg q.num),.slice A7 ((lim (iabs q.num)).length) c8,.slice A11 ((lim q.den).length) c12]) hs (fun w20 hs=>?_)
 refine lN (CG.seq (cSL (lL hs [.v 8 (.pointer (some ⟨b4,2,none⟩)),.o 9 (.slice D1 ((lim r.den).length) d1) 1 2 1,.v 10 (.int .i64 ((lim r.den).length:Nat))] ?_)))
 have hb21:((((lim r.den).length:Nat):Int) == (0:Int))=false:=(by simp;exact fun h=>Nat.lt_irrefl 0 (by rw[h] at hpd;exact hpd))
 have phb21:=neOfBeq hb21
 refine lB 11 hb21 ?_
 refine lN (cIF (CG.skipN (cSL (lL hs [.v 13 (.pointer (some ⟨b17,0,none⟩)),.v 14 (.pointer (some ⟨b17,1,none⟩)),.o 15 (.slice A7 ((lim (iabs q.num)).length) c8) 0 1 1,.v 16 (.pointer (some ⟨b4,0,none⟩)),.v 17 (.pointer (some ⟨b4,1,none⟩)),.o 18 (.slice A1 ((lim (iabs r.num)).length) c1) 1 1 1] (lC 19 hs (rNatCmp (iabs q.num) A7 c8 hc9 (iabs r.num) A1 c1 hc1 oM oM _ _ hs.g (hs.f.2.1) (hs.f.2.2.2.1)) ?_)))))
 rintro _ w22 h23 hs rfl
 cases hb24:((cmpN (iabs q.num) (iabs r.num):Int) == (0:Int))
 ·
  have phb24:=neOfBeq hb24
  refine lB 20 hb24 ?_
  refine lL hs [.m 21 20] (lG 22 ?_)
  refine lG 23 ?_
  refine lG 24 ?_
  refine lG 25 ?_
  refine lG 26 ?_
  refine lG 27 ?_
  refine lG 28 ?_
  refine lL hs [.v 29 (.bool false),.m 30 29] (lG 31 ?_)
  refine lG 32 ?_
  refine lG 33 ?_
  refine lG 34 ?_
  refine lG 35 ?_
  refine lG 36 ?_
  exact lL hs [.v 37 (.bool false),.m 4 37] (lN (CG.ret (hs.ret [] (.bool false) (congrArg Value.bool (sameQ_f (by first|(left;assumption)|(right;right;assumption)|(right;left;exact beq_eq_false_iff_ne.1 ‹_›)))))))
 have phb24:=eq_of_beq hb24
 refine lB 20 hb24 ?_
 refine lL hs [.m 21 20,.v 22 (.pointer (some ⟨b17,0,none⟩)),.v 23 (.pointer (some ⟨b17,0,none⟩)),.o 24 (.bool (ineg q.num)) 0 0 1,.v 25 (.pointer (some ⟨b4,0,none⟩)),.v 26 (.pointer (some ⟨b4,0,none⟩)),.o 27 (.bool (ineg r.num)) 1 0 1] ?_
 cases hb25:((ineg q.num) == (ineg r.num))
 ·
  refine lB 28 hb25 ?_
  refine lL hs [.v 29 (.bool false),.m 30 29] (lG 31 ?_)
  refine lG 32 ?_
  refine lG 33 ?_
  refine lG 34 ?_
  refine lG 35 ?_
  refine lG 36 ?_
  exact lL hs [.v 37 (.bool false),.m 4 37] (lN (CG.ret (hs.ret [] (.bool false) (congrArg Value.bool (sameQ_f (by first|(left;assumption)|(right;right;assumption)|(right;left;exact beq_eq_false_iff_ne.1 ‹_›)))))))
 refine lB 28 hb25 ?_
 refine lL hs [.v 29 (.bool true),.m 30 29,.v 31 (.pointer (some ⟨b17,2,none⟩)),.o 32 (.slice A11 ((lim q.den).length) c12) 0 2 1,.v 33 (.pointer (some ⟨b4,2,none⟩)),.o 34 (.slice D1 ((lim r.den).length) d1) 1 2 1] (lC 35 hs (rNatCmp q.den A11 c12 hc13 r.den D1 d1 hd1 oM oM _ _ hs.g (hs.f.1) (hs.f.2.2.1)) ?_)
 rintro _ w26 h27 hs rfl
 cases hb28:((cmpN q.den r.den:Int) == (0:Int))
 ·
  have phb28:=neOfBeq hb28
  refine lB 36 hb28 ?_
  exact lL hs [.v 37 (.bool false),.m 4 37] (lN (CG.ret (hs.ret [] (.bool false) (congrArg Value.bool (sameQ_f (by first|(left;assumption)|(right;right;assumption)|(right;left;exact beq_eq_false_iff_ne.1 ‹_›)))))))
 have phb28:=eq_of_beq hb28
 refine lB 36 hb28 ?_
 exact lL hs [.v 37 (.bool true),.m 4 37] (lN (CG.ret (hs.ret [] (.bool true) (congrArg Value.bool (sameQ_t aM (eq_of_beq ‹_›) aM)))))
theorem LQ.mkR {n d:Int}(hd:d≠0)(h0 : -9223372036854775808≤n)(h1:n≤9223372036854775807)(h2 : -9223372036854775808≤d)(h3:d≤9223372036854775807):LQ 1 (mkR n d):=by
  unfold Go.Proofs.YtphakaomkmhbaaaGreatDoor.mkR
  have hp:0<iabs d:=by unfold iabs;omega
  obtain ⟨p1,p2,p3,p4⟩:=mkRat_parts (if d<0 then -n else n) (iabs d) hp
  refine ⟨?_,?_⟩
  · rw[p1];refine wds_len_lit.2 (Nat.lt_of_le_of_lt (iabs_div_le _ _ p3) ?_)
    unfold iabs;split<;>omega
  · rw[p2];exact wds_len_lit.2 (Nat.lt_of_le_of_lt (Nat.div_le_self _ _) (by unfold iabs;omega))
theorem hIs (q:Rat)(z e:Int)(hq:LQ 100000000 q)(he:e≠0)(hz0 : -9223372036854775808≤z)(hz1:z<9223372036854775808)(he0 : -9223372036854775808≤e)(he1:e<9223372036854775808)(w:World)(h:Hp)(g:G w h) :
    Calls Tryz.prog 59 #[qv q,.int .i64 z,.int .i64 e] w (Ret w h fun v _=>v=.bool (sameQ q (mkR z e))):=by
 have hs:=SS.start g
 have hb:LQ 100000000 (mkR z e):=(LQ.mkR he hz0 oM he0 oM).mono oM
 refine go Tryz.func59 [(0,qv q),(1,.int .i64 z),(2,.int .i64 e)] rfl ?_
 refine cSL (lA 3 74 (qc q) hs (fun b1 w2 h3 hs=>?_))
 refine lL hs [.v 6 (.bool false)] (lN (CG.seq (cR 5 [] mixed hs al_nil ?_)))
 refine eO 0 7 [(0,0,5)] (qv q) hs ?_
 refine eV 1 8 (.int .i64 z) ?_
 refine eV 2 9 (.int .i64 e) ?_
 refine eC 3 10 hs (fun _ _ hs=>rOver z e oM oM oM oM oM _ _ hs.g) ?_
 rintro _ _ _ w12 h13 hs ⟨A4,c5,A8,c9,rfl,hc6,hc10,hA7,hA11⟩
 replace hs:=((hs.a_SlO hA7).a_SlO hA11)
 refine eC 4 11 hs (fun _ _ hs=>hSame q (mkR z e) hq hb A4 c5 A8 c9 hc6 hc10 _ _ hs.g (hs.f.2.1) (hs.f.1)) ?_
 rintro _ _ _ w14 h15 hs rfl
 refine eD0 hs (fun w16 h17 hs=>?_)
 refine tV 5 6 (.bool (sameQ q (mkR z e))) ?_
 exact tN (CG.ret (hs.ret [] (.bool (sameQ q (mkR z e))) rfl))
def pick (n:Int)(m:Nat):Nat:=(n%(m:Int)).toNat
theorem pick_lt (n:Int)(m:Nat)(h:0<m):pick n m<m:=by
  unfold pick
  have h1:=Int.emod_nonneg n (show (m:Int)≠0 by omega)
  have h2:=Int.emod_lt_of_pos n (show (0:Int)<m by omega)
  omega
theorem pick_int (n:Int)(m:Nat)(h:0<m):((pick n m:Nat):Int)=n%(m:Int):=by
  unfold pick
  have h1:=Int.emod_nonneg n (show (m:Int)≠0 by omega)
  omega
theorem tmod_neg (n:Int)(m:Nat)(hm:0<m)(hn:n<0):(n%(m:Int)=0∧n.tmod (m:Int)=0)∨(0<n%(m:Int)∧n.tmod (m:Int)=n%(m:Int)-m):=by
  have b1:=Int.emod_nonneg n (show (m:Int)≠0 by omega)
  rw[Int.tmod_eq_emod]
  by_cases h:(m:Int)∣n
  · left
    rw[if_pos (.inr h)]
    have:=Int.emod_eq_zero_of_dvd h
    exact ⟨this,by omega⟩
  · right
    have h2:¬(n%(m:Int)=0):=fun h'=>h (Int.dvd_of_emod_eq_zero h')
    rw[if_neg (by intro h';rcases h' with h'|h';omega;exact h h')]
    refine ⟨by omega,by simp⟩
def dDen (k:Nat):Nat:=match k with|0=>1|1=>1|2=>1|3=>2|4=>3|_=>4
theorem dDen_pos (k:Nat):0<dDen k:=by unfold dDen;split<;>omega
theorem dDen_le (k:Nat):dDen k≤4:=by unfold dDen;split<;>omega
def handRq (n:Int):Rat:=mkR ((pick n 41:Int)-20) (dDen (pick (n.tdiv 41) 6):Nat)
def smallq (n:Int):Rat:=mkR ((pick n 9:Int)-4) (((pick (n.tdiv 9) 2:Nat):Int)+1)
theorem tdiv_bd (n:Int)(m:Int)(hm:1<m)(hn0 : -9223372036854775808≤n)(hn1:n≤9223372036854775807) : -9223372036854775808≤n.tdiv m∧n.tdiv m≤9223372036854775807:=by
  have h1:(n.tdiv m).natAbs≤n.natAbs/2:=by
    rw[Int.natAbs_tdiv];exact Nat.div_le_div_left oM oM
  omega
theorem pick_neg {n:Int}{m:Nat}(hm:0<m)(h:n.tmod (m:Int)<0):n.tmod (m:Int)+m=((pick n m:Nat):Int):=by
  rw[pick_int n m hm]
  rcases Int.lt_or_le n 0 with hn|hn
  · rcases tmod_neg n m hm hn with ⟨h1,h2⟩|⟨h1,h2⟩<;>omega
  · rw[Int.tmod_eq_emod_of_nonneg hn] at h
    have:=Int.emod_nonneg n (show (m:Int)≠0 by omega)
    omega
theorem pick_nneg {n:Int}{m:Nat}(hm:0<m)(h:¬n.tmod (m:Int)<0):n.tmod (m:Int)=((pick n m:Nat):Int):=by
  rw[pick_int n m hm]
  rcases Int.lt_or_le n 0 with hn|hn
  · rcases tmod_neg n m hm hn with ⟨h1,h2⟩|⟨h1,h2⟩
    · omega
    · have:=Int.emod_lt_of_pos n (show (0:Int)<m by omega)
      omega
  · rw[Int.tmod_eq_emod_of_nonneg hn]
theorem tmod_bd (n:Int){m:Nat}(hm:0<m) : -(m:Int)<n.tmod (m:Int)∧n.tmod (m:Int)<m:=by
  have h1:=Int.tmod_lt_of_pos n (show (0:Int)<m by omega)
  have h2:=Int.lt_tmod_of_pos n (show (0:Int)<m by omega)
  exact ⟨h2,h1⟩
theorem hPick (n:Int)(m:Nat)(hm:0<m)(hm2:m<1000000)(w:World)(h:Hp)(g:G w h) :
    Calls Tryz.prog 15 #[.int .i64 n,.int .i64 (m:Nat)] w (Ret w h fun v _=>v=.int .i64 (pick n m:Nat)):=by
 have hs:=SS.start g
 obtain ⟨b1,b2⟩:=tmod_bd n hm
 refine go Tryz.func15 [(0,.int .i64 n),(1,.int .i64 (m:Nat))] rfl ?_
 refine cSL (lL hs [.v 4 (.int .i64 0)] (lNS (lL hs [.m 5 0,.m 6 1] (lV 7 (.int .i64 (n.tmod (m:Nat))) ?_ (hr:=opRem (t:=3) (u:=3) (x:=.tmp 5) (y:=.tmp 6) (k:=.i64) (a:=n) (b:=(m:Nat)) kR kR kR oM _)))))
 refine lL hs [.m 0 7] (lN (CG.seq (cSL (lL hs [.m 8 0] ?_))))
 cases hb1:(decide ((n.tmod (m:Nat):Int)<(0:Int)))
 ·
  have phb1:=oF hb1
  refine lB 9 hb1 ?_
  exact lN (cIF (CG.skipN (cSL (lL hs [.m 13 0,.m 4 13] (lN (CG.ret (hs.ret [] (.int .i64 (n.tmod (m:Nat))) (congrArg (Value.int .i64) (pick_nneg hm aM)))))))))
 have phb1:=oT hb1
 refine lB 9 hb1 ?_
 refine lN (cIT (CG.listed (lL hs [.m 10 0,.m 11 1] (lI 12 ((n.tmod (m:Nat))+(m:Nat)) ?_))))
 exact lL hs [.m 0 12] (lNS (lL hs [.m 13 0,.m 4 13] (lN (CG.ret (hs.ret [] (.int .i64 ((n.tmod (m:Nat))+(m:Nat))) (congrArg (Value.int .i64) (pick_neg hm aM)))))))
theorem index6_0 (w:World):(Instr.index 237 (.agg #[.int .i64 1,.int .i64 1,.int .i64 1,.int .i64 2,.int .i64 3,.int .i64 4]) (.int .i64 0)).run Tryz.prog w=.ok (.int .i64 1) w:=by kernel_rfl
theorem index6_1 (w:World):(Instr.index 237 (.agg #[.int .i64 1,.int .i64 1,.int .i64 1,.int .i64 2,.int .i64 3,.int .i64 4]) (.int .i64 1)).run Tryz.prog w=.ok (.int .i64 1) w:=by kernel_rfl
theorem index6_2 (w:World):(Instr.index 237 (.agg #[.int .i64 1,.int .i64 1,.int .i64 1,.int .i64 2,.int .i64 3,.int .i64 4]) (.int .i64 2)).run Tryz.prog w=.ok (.int .i64 1) w:=by kernel_rfl
theorem index6_3 (w:World):(Instr.index 237 (.agg #[.int .i64 1,.int .i64 1,.int .i64 1,.int .i64 2,.int .i64 3,.int .i64 4]) (.int .i64 3)).run Tryz.prog w=.ok (.int .i64 2) w:=by kernel_rfl
theorem index6_4 (w:World):(Instr.index 237 (.agg #[.int .i64 1,.int .i64 1,.int .i64 1,.int .i64 2,.int .i64 3,.int .i64 4]) (.int .i64 4)).run Tryz.prog w=.ok (.int .i64 3) w:=by kernel_rfl
theorem index6_5 (w:World):(Instr.index 237 (.agg #[.int .i64 1,.int .i64 1,.int .i64 1,.int .i64 2,.int .i64 3,.int .i64 4]) (.int .i64 5)).run Tryz.prog w=.ok (.int .i64 4) w:=by kernel_rfl
theorem index6 (k:Nat)(h:k<6)(w:World):(Instr.index 237 (.agg #[.int .i64 1,.int .i64 1,.int .i64 1,.int .i64 2,.int .i64 3,.int .i64 4]) (.int .i64 (k:Int))).run Tryz.prog w=.ok (.int .i64 ((dDen k:Nat):Int)) w:=by
  have:k=0∨k=1∨k=2∨k=3∨k=4∨k=5:=by omega
  rcases this with rfl|rfl|rfl|rfl|rfl|rfl
  · exact index6_0 w
  · exact index6_1 w
  · exact index6_2 w
  · exact index6_3 w
  · exact index6_4 w
  · exact index6_5 w
theorem idx6 {Γ:Env}{o:Oper}{x y:Operand}(k:Nat)(h:k<6)(ho:o.op=.index 237 x y)(hx:ev Γ x=.agg #[.int .i64 1,.int .i64 1,.int .i64 1,.int .i64 2,.int .i64 3,.int .i64 4])(hy:ev Γ y=.int .i64 (k:Nat))(w:World) :
    (execOp (ev Γ) o).run Tryz.prog w=.ok (.value (.int .i64 (dDen k:Nat))) w:=by
  unfold execOp;simp only[ho];rw[hx,hy,Sem.run_bind,index6 k h w];rfl
theorem hR (n:Int)(h0 : -9223372036854775808≤n)(h1:n≤9223372036854775807)(w:World)(h:Hp)(g:G w h) :
    Calls Tryz.prog 77 #[.int .i64 n] w (Ret w h fun v h1=>RQ h1 v (handRq n)):=by
 have hs:=SS.start g
 obtain ⟨t0,t1⟩:=tdiv_bd n 41 oM h0 h1
 have l1:=pick_lt n 41 oM
 have l2:=pick_lt (n.tdiv 41) 6 oM
 have p1:=dDen_pos (pick (n.tdiv 41) 6)
 have p2:=dDen_le (pick (n.tdiv 41) 6)
 refine go Tryz.func77 [(0,.int .i64 n)] rfl ?_
 refine cSL (lA 2 86 ([.bool false,.slice none 0 0,.slice none 0 0]) hs (fun b1 w2 h3 hs=>?_))
 refine lNS (lL hs [.m 3 0] (lC 4 hs (hPick (n) 41 oM oM _ _ hs.g) ?_))
 rintro _ w5 h6 hs rfl
 have lp4:=pick_lt (n) 41 oM
 refine lI 5 ((pick (n) 41:Nat)-20) ?_
 refine lL hs [.v 6 (.agg #[.int .i64 1,.int .i64 1,.int .i64 1,.int .i64 2,.int .i64 3,.int .i64 4]),.m 7 0] (lV 8 (.int .i64 (n.tdiv 41)) ?_ (hr:=rint (n:=IntKind.wrap .i64 (n.tdiv 41)) kR (fitI64 oM oM)))
 refine lC 9 hs (hPick (n.tdiv 41) 6 oM oM _ _ hs.g) ?_
 rintro _ w8 h9 hs rfl
 have lp7:=pick_lt (n.tdiv 41) 6 oM
 refine lV 10 (.int .i64 (dDen (pick (n.tdiv 41) 6):Nat)) ?_ (hr:=idx6 (x:=.tmp 6) (y:=.tmp 9) (pick (n.tdiv 41) 6) l2 kR kR kR _)
 refine lC 11 hs (rOver ((pick (n) 41:Nat)-20) (dDen (pick (n.tdiv 41) 6):Nat) oM oM oM oM oM _ _ hs.g) ?_
 rintro _ w18 h19 hs ⟨A10,c11,A14,c15,rfl,hc12,hc16,hA13,hA17⟩
 replace hs:=((hs.a_SlO hA13).a_SlO hA17)
 refine lP 0 0 ([.bool (ineg (handRq n).num),.slice A10 ((lim (iabs (handRq n).num)).length) c11,.slice A14 ((lim (handRq n).den).length) c15]) hs (fun w20 hs=>?_)
 exact lN (CG.ret (hs.ret [(0,0,3)] (.agg #[.bool (ineg (handRq n).num),.slice A10 ((lim (iabs (handRq n).num)).length) c11,.slice A14 ((lim (handRq n).den).length) c15]) (⟨_,_,_,_,rfl,hc12,hc16,(hs.f.2.1),(hs.f.1)⟩)))
theorem mSmall (n:Int)(h0 : -9223372036854775808≤n)(h1:n≤9223372036854775807)(w:World)(h:Hp)(g:G w h) :
    Calls Tryz.prog 100 #[.int .i64 n] w (Ret w h fun v h1=>RQ h1 v (smallq n)):=by
 have hs:=SS.start g
 obtain ⟨t0,t1⟩:=tdiv_bd n 9 oM h0 h1
 have l1:=pick_lt n 9 oM
 have l2:=pick_lt (n.tdiv 9) 2 oM
 refine go Tryz.func100 [(0,.int .i64 n)] rfl ?_
 refine cSL (lA 2 86 ([.bool false,.slice none 0 0,.slice none 0 0]) hs (fun b1 w2 h3 hs=>?_))
 refine lNS (lL hs [.m 3 0] (lC 4 hs (hPick (n) 9 oM oM _ _ hs.g) ?_))
 rintro _ w5 h6 hs rfl
 have lp4:=pick_lt (n) 9 oM
 refine lI 5 ((pick (n) 9:Nat)-4) ?_
 refine lL hs [.m 6 0] (lV 7 (.int .i64 (n.tdiv 9)) ?_ (hr:=rint (n:=IntKind.wrap .i64 (n.tdiv 9)) kR (fitI64 oM oM)))
 refine lC 8 hs (hPick (n.tdiv 9) 2 oM oM _ _ hs.g) ?_
 rintro _ w8 h9 hs rfl
 have lp7:=pick_lt (n.tdiv 9) 2 oM
 refine lV 9 (.int .i64 (((pick (n.tdiv 9) 2:Nat):Int)+1)) ?_ (hr:=ri64 (n:=((pick (n.tdiv 9) 2:Nat):Int)+1) kR oM oM)
 refine lC 10 hs (rOver ((pick (n) 9:Nat)-4) (((pick (n.tdiv 9) 2:Nat):Int)+1) oM oM oM oM oM _ _ hs.g) ?_
 rintro _ w18 h19 hs ⟨A10,c11,A14,c15,rfl,hc12,hc16,hA13,hA17⟩
 replace hs:=((hs.a_SlO hA13).a_SlO hA17)
 refine lP 0 0 ([.bool (ineg (smallq n).num),.slice A10 ((lim (iabs (smallq n).num)).length) c11,.slice A14 ((lim (smallq n).den).length) c15]) hs (fun w20 hs=>?_)
 exact lN (CG.ret (hs.ret [(0,0,3)] (.agg #[.bool (ineg (smallq n).num),.slice A10 ((lim (iabs (smallq n).num)).length) c11,.slice A14 ((lim (smallq n).den).length) c15]) (⟨_,_,_,_,rfl,hc12,hc16,(hs.f.2.1),(hs.f.1)⟩)))
theorem LQ.hand (n:Int):LQ 1 (handRq n):=by
  unfold handRq
  have l1:=pick_lt n 41 oM
  have p1:=dDen_pos (pick (n.tdiv 41) 6)
  have p2:=dDen_le (pick (n.tdiv 41) 6)
  exact LQ.mkR oM oM oM oM oM
theorem LQ.small (n:Int):LQ 1 (smallq n):=by
  unfold smallq
  have l1:=pick_lt n 9 oM
  have l2:=pick_lt (n.tdiv 9) 2 oM
  exact LQ.mkR oM oM oM oM oM
abbrev RT:=Bool × Value × Value
def rqc (t:RT):List Value:=[.bool t.1,t.2.1,t.2.2]
def rqd:RT:=(false,undef,undef)
def rtv (t:RT):Value:=.agg #[.bool t.1,t.2.1,t.2.2]
structure RTs (h:Hp) (ts:List RT) (qs:List Rat):Prop where
  len:ts.length=qs.length
  at_:∀ i,i<qs.length→RQ h (rtv (ts.getD i rqd)) (qs.getD i 0)
theorem RTs.gw {h h':Hp}{ts:List RT}{qs:List Rat}(r:RTs h ts qs)(u:Gw h h'):RTs h' ts qs:=⟨r.len,fun i hi=>(r.at_ i hi).gw u⟩
theorem RTs.nil {h:Hp}:RTs h [] []:=⟨rfl,fun i hi=>by simp at hi⟩
theorem getD_snoc {α:Type}(l:List α)(x d:α)(i:Nat):(l++[x]).getD i d=if i<l.length then l.getD i d else if i=l.length then x else d:=by
  split
  · rename_i h;simp[List.getElem?_append_left h]
  · rename_i h
    split
    · rename_i h2;subst h2;simp
    · rename_i h2;simp[List.getElem?_eq_none (show (l++[x]).length≤i by simp;omega)]
theorem RTs.snoc {h:Hp}{ts:List RT}{qs:List Rat}(r:RTs h ts qs){t:RT}{q:Rat}(hq:RQ h (rtv t) q):RTs h (ts++[t]) (qs++[q]):=by
  refine ⟨by simp[r.len],fun i hi=>?_⟩
  rw[getD_snoc,getD_snoc,r.len]
  split
  · rename_i h1;exact r.at_ i h1
  · rename_i h1
    have:i=qs.length:=by simp at hi;omega
    rw[if_pos this,if_pos this];exact hq
theorem take_snoc' {α:Type}{l:List α}{k:Nat}(d:α)(h:k<l.length):l.take (k+1)=l.take k++[l.getD k d]:=by
  rw[List.take_add_one];simp[h]
def vc (v:Value):List Value:=[v]
def rowq (zs:List Int):Nat→List Rat
  | 0=>[]
  | k+1=>rowq zs k++[if k<zs.length then handRq (zs.getD k 0) else 0]
theorem rowq_len (zs:List Int)(k:Nat):(rowq zs k).length=k:=by induction k with|zero=>rfl|succ k ih=>simp[rowq,ih]
def I64s (zs:List Int):Prop:=∀ k,-9223372036854775808≤zs.getD k 0∧zs.getD k 0≤9223372036854775807
structure RVs (h:Hp) (vs:List Value) (qss:List (List Rat)):Prop where
  len:vs.length=qss.length
  at_:∀ i,i<qss.length→∃ A cap,∃ ts:List RT,vs.getD i undef=.slice A ts.length cap∧ts.length≤cap∧SlO 3 rqc rqd h A ts∧RTs h ts (qss.getD i [])
theorem RVs.gw {h h':Hp}{vs:List Value}{qss:List (List Rat)}(r:RVs h vs qss)(u:Gw h h'):RVs h' vs qss:=⟨r.len,fun i hi=>by
  obtain ⟨A,cap,ts,h1,h2,h3,h4⟩:=r.at_ i hi
  exact ⟨A,cap,ts,h1,h2,h3.gw u,h4.gw u⟩⟩
structure QVs (h:Hp) (vs:List Value) (qss:List (List Rat)):Prop where
  len:vs.length=qss.length
  at_:∀ i,i<qss.length→SlV 5 qc 0 h (vs.getD i undef) (qss.getD i [])
theorem QVs.gw {h h':Hp}{vs:List Value}{qss:List (List Rat)}(r:QVs h vs qss)(u:Gw h h'):QVs h' vs qss:=⟨r.len,fun i hi=>(r.at_ i hi).gw u⟩
theorem QVs.nil {h:Hp}:QVs h [] []:=⟨rfl,fun i hi=>by simp at hi⟩
theorem QVs.snoc {h:Hp}{vs:List Value}{qss:List (List Rat)}(r:QVs h vs qss){v:Value}{l:List Rat}(hv:SlV 5 qc 0 h v l):QVs h (vs++[v]) (qss++[l]):=by
  refine ⟨by simp[r.len],fun i hi=>?_⟩
  rw[getD_snoc,getD_snoc,r.len]
  split
  · rename_i h1;exact r.at_ i h1
  · rename_i h1
    have:i=qss.length:=by simp at hi;omega
    rw[if_pos this,if_pos this];exact hv
theorem RVs.nil {h:Hp}:RVs h [] []:=⟨rfl,fun i hi=>by simp at hi⟩
theorem RVs.snoc {h:Hp}{vs:List Value}{qss:List (List Rat)}(r:RVs h vs qss){v:Value}{l:List Rat}(hv:∃ A cap,∃ ts:List RT,v=.slice A ts.length cap∧ts.length≤cap∧SlO 3 rqc rqd h A ts∧RTs h ts l):RVs h (vs++[v]) (qss++[l]):=by
  refine ⟨by simp[r.len],fun i hi=>?_⟩
  rw[getD_snoc,getD_snoc,r.len]
  split
  · rename_i h1;exact r.at_ i h1
  · rename_i h1
    have:i=qss.length:=by simp at hi;omega
    rw[if_pos this,if_pos this];exact hv
theorem rowq_step {zs:List Int}{k:Nat}{q:Rat}(hq:(if k<zs.length then handRq (zs.getD k 0) else 0)=q){ts':List RT}{h':Hp}(hh:RTs h' ts' (rowq zs k++[q])):RTs h' ts' (rowq zs (k+1)):=by
  show RTs h' ts' (rowq zs k++[_]);rw[hq];exact hh
theorem rowq_lq (zs:List Int):∀ n i,LQ 1 ((rowq zs n).getD i 0)
  | 0,i=>LQ.lit (z:=0) kD
  | n + 1,i=>by
    show LQ 1 ((rowq zs n++[_]).getD i 0)
    rw[getD_snoc]
    split
    · exact rowq_lq zs n i
    · split
      · split
        · exact LQ.hand _
        · exact LQ.lit (z:=0) kD
      · exact LQ.lit (z:=0) kD
theorem rqOk {h:Hp}{A D:Option Addr}{c d:Nat}{q:Rat}(h1:(lim (iabs q.num)).length≤c)(h2:(lim q.den).length≤d)(h3:SlO 1 u32c 0 h A (lim (iabs q.num)))(h4:SlO 1 u32c 0 h D (lim q.den)):RQ h (rtv ((ineg q.num,.slice A (lim (iabs q.num)).length c,.slice D (lim q.den).length d):RT)) q:=⟨_,_,_,_,rfl,h1,h2,h3,h4⟩
theorem hInRow (A:Option Addr)(cap:Nat)(ts:List RT)(qs:List Rat)(hl:qs.length≤1000000)(hf:∀ i,i<qs.length→LQ 100000000 (qs.getD i 0))(w:World)(h:Hp)(g:G w h)(hA:SlO 3 rqc rqd h A ts)(hT:RTs h ts qs)(tb:Tab h) :
    Calls Tryz.prog 19 #[.slice A ts.length cap] w (Ret w h fun v h1=>SlV 5 qc 0 h1 v qs):=by
 have hs:=SS.start g
 replace hs:=(((hs.a_SlO hA).add (K:=fun h_=>RTs h_ ts qs) hT).add (K:=fun h_=>Tab h_) tb)
 have hlen:=(hs.f.2.1).len
 refine go Tryz.func19 [(0,.slice A ts.length cap)] rfl ?_
 refine cSL (lL hs [.v 2 (.slice none 0 0)] (lNS (lL hs [.v 3 (.slice none 0 0)] (lN (CG.seq (cSL (lL hs [.v 4 (.int .i64 0)] (lN (CG.block ?_)))))))))
 replace hs:=hs.nil 74 5
 refine cTo [(0,.slice A ts.length cap),(2,.slice none 0 0),(4,.int .i64 0),(3,.slice none 0 0)] ?_
 refine CG.loop (fun μ_ Γ w_=>∃ (k:Nat) (sA:Option Addr) (sc:Nat) (ql:List Rat) (h_:Hp),μ_=qs.length-k∧Γ=[(0,.slice A ts.length cap),(2,.slice none 0 0),(4,.int .i64 (k:Nat)),(3,.slice sA ((ql).length) sc)]∧SS w h w_ h_ [] [⟨74,5,sA,sc,(ql).length,(ql).flatMap qc⟩] [fun h_=>Tab h_,fun h_=>RTs h_ ts qs,fun h_=>SlO 3 rqc rqd h_ A ts]∧(k≤qs.length)∧(ql=qs.take k)) _ ⟨0,none,0,[],h,rfl,rfl,hs.to _ _,Nat.zero_le _,rfl⟩ ?_
 rintro _ _ w1 ⟨k,sA,sc,ql,h2,hm3,rfl,hs,hk,hql⟩
 have htk:ql.length=k:=by rw[hql];simp;omega
 refine CG.seq (cSL (lL hs [.m 5 4,.m 6 0,.v 7 (.int .i64 (ts.length:Nat))] ?_))
 cases hb4:(decide (((k:Nat):Int)<((ts.length:Nat):Int)))
 ·
  have phb4:=oF hb4
  refine lB 8 hb4 ?_
  refine lN (cIF (CG.exit ?_))
  show CG _ _ _ _ _ _ _ _
  refine cSL (lL hs [.m 19 3,.m 2 19] (lN (CG.ret ?_)))
  have hkq:ql=qs:=by rw[hql];exact List.take_of_length_le oM
  subst hkq
  obtain ⟨h5,hs,hc6⟩:=hs.pubr 0 (A:=sA) (c:=sc) (l:=ql) (f:=qc) (ty:=74) (sz:=5) 0 (fun _=>rfl)
  exact hs.ret [] (.slice sA ((ql).length) sc) (⟨_,_,rfl,hc6,(hs.f.1)⟩)
 have phb4:=oT hb4
 refine lB 8 hb4 ?_
 refine lN (cIT (CG.skipN (CG.seq (CG.block (CG.listed (lL hs [.m 11 3,.m 12 0,.m 13 4] (lX 14 A ts.length cap 3 (k:Nat) k ((hs.f.2.2.1).ok oM) ?_)))))))
 refine lH 15 (.agg #[.bool ((ts.getD k rqd).1),(ts.getD k rqd).2.1,(ts.getD k rqd).2.2]) hs ((hs.f.2.2.1).el k oM) ?_
 refine lC 16 hs (hInV _ (qs.getD k 0) (hf k oM) _ _ hs.g ((hs.f.2.1).at_ k oM) (hs.f.1)) ?_
 rintro _ w8 h9 hs rfl
 refine lR 17 74 1 (qc (qs.getD k 0)) hs (fun b10 w11 h12 hs=>?_)
 refine lY 18 0 74 5 sc sA ql qc (qs.getD k 0) 56 b10 (.agg #[.bool false,.int .u64 0,.string ⟨#[]⟩,.int .u64 0,.string ⟨#[]⟩]) hs (hs.f.1) (fun A14 c15 w16 h17 hs=>?_)
 refine lL hs [.m 3 18] (lN (CG.listed (lL hs [.m 9 4] (lIn 10 ((k:Nat)+1) (k+1) ?_))))
 refine lL hs [.m 4 10] (lD ?_)
 intro a_ ka
 have q19:(k+1)≤qs.length:=by omega
 have q20:(ql++[qs.getD k 0])=qs.take (k+1):=by rw[take_snoc' 0 oM,hql]
 replace hs:=hs.tl
 refine ⟨_,_,?_,⟨k+1,A14,c15,ql++[qs.getD k 0],h17,rfl,rfl,hs.to _ _,q19,q20⟩,ka.to [(0,.slice A ts.length cap),(2,.slice none 0 0),(4,.int .i64 ((k+1):Nat)),(3,.slice A14 (((ql++[qs.getD k 0])).length) c15)] kR⟩
 omega
theorem hRow (A:Option Addr)(cap:Nat)(zs:List Int)(n:Nat)(hn:n≤1000000)(hl:zs.length≤9223372036854775807)(hz:I64s zs)(w:World)(h:Hp)(g:G w h)(hA:SlO 1 i64c 0 h A zs) :
    Calls Tryz.prog 16 #[.slice A zs.length cap,.int .i64 (n:Nat)] w (Ret w h fun v h1=>∃ A c,∃ ts:List RT,v=.slice A ts.length c∧ts.length≤c∧SlO 3 rqc rqd h1 A ts∧RTs h1 ts (rowq zs n)):=by
 have hs:=SS.start g
 replace hs:=(hs.a_SlO hA)
 refine go Tryz.func16 [(0,.slice A zs.length cap),(1,.int .i64 (n:Nat))] rfl ?_
 refine cSL (lL hs [.v 4 (.slice none 0 0)] (lNS (lL hs [.v 5 (.slice none 0 0)] (lN (CG.seq (cSL (lL hs [.v 6 (.int .i64 0)] (lN (CG.block ?_)))))))))
 replace hs:=hs.nil 86 3
 refine cTo [(0,.slice A zs.length cap),(1,.int .i64 (n:Nat)),(4,.slice none 0 0),(6,.int .i64 0),(5,.slice none 0 0)] ?_
 replace hs:=hs.add (K:=fun h_=>RTs h_ ([]) (rowq zs 0)) (RTs.nil)
 refine CG.loop (fun μ_ Γ w_=>∃ (k:Nat) (sA:Option Addr) (sc:Nat) (ts:List RT) (h_:Hp),μ_=n-k∧Γ=[(0,.slice A zs.length cap),(1,.int .i64 (n:Nat)),(4,.slice none 0 0),(6,.int .i64 (k:Nat)),(5,.slice sA ((ts).length) sc)]∧SS w h w_ h_ [] [⟨86,3,sA,sc,(ts).length,(ts).flatMap rqc⟩] [fun h_=>RTs h_ ts (rowq zs k),fun h_=>SlO 1 i64c 0 h_ A zs]∧(k≤n)) _ ⟨0,none,0,[],h,rfl,rfl,hs.to _ _,Nat.zero_le _⟩ ?_
 rintro _ _ w1 ⟨k,sA,sc,ts,h2,hm3,rfl,hs,hk⟩
 have hlT:=(hs.f.1).len
 rw[rowq_len] at hlT
 refine CG.seq (cSL (lL hs [.m 7 6,.m 8 1] ?_))
 cases hb4:(decide (((k:Nat):Int)<((n:Nat):Int)))
 ·
  have phb4:=oF hb4
  refine lB 9 hb4 ?_
  refine lN (cIF (CG.exit ?_))
  show CG _ _ _ _ _ _ _ _
  refine cSL (lL hs [.m 28 5,.m 4 28] (lN (CG.ret ?_)))
  have hkq:k=n:=by omega
  subst hkq
  obtain ⟨h5,hs,hc6⟩:=hs.pubr 0 (A:=sA) (c:=sc) (l:=ts) (f:=rqc) (ty:=86) (sz:=3) rqd (fun _=>rfl)
  exact hs.ret [] (.slice sA ((ts).length) sc) (⟨_,_,ts,rfl,hc6,(hs.f.1),(hs.f.2.1)⟩)
 have phb4:=oT hb4
 refine lB 9 hb4 ?_
 refine lN (cIT (CG.skipN (CG.seq (CG.block (cSL (lL hs [.m 12 6,.m 13 0,.v 14 (.int .i64 (zs.length:Nat))] ?_))))))
 cases hb8:(decide (((k:Nat):Int)<((zs.length:Nat):Int)))
 ·
  have phb8:=oF hb8
  refine lB 15 hb8 ?_
  refine lN (cIF (CG.listed (lL hs [.m 24 5] (lC 25 hs (rOf 0 oM oM _ _ hs.g) ?_))))
  rintro _ w17 h18 hs ⟨A9,c10,A13,c14,rfl,hc11,hc15,hA12,hA16⟩
  replace hs:=((hs.a_SlO hA12).a_SlO hA16)
  refine lR 26 86 1 ([.bool (ineg ((0:Int):Rat).num),.slice A9 ((lim (iabs ((0:Int):Rat).num)).length) c10,.slice A13 ((lim ((0:Int):Rat).den).length) c14]) hs (fun b19 w20 h21 hs=>?_)
  refine lY 27 0 86 3 sc sA ts rqc ((ineg ((0:Int):Rat).num,.slice A9 ((lim (iabs ((0:Int):Rat).num)).length) c10,.slice A13 ((lim ((0:Int):Rat).den).length) c14):RT) 56 b19 (.agg #[.bool false,.slice none 0 0,.slice none 0 0]) hs (hs.f.1) (fun A23 c24 w25 h26 hs=>?_)
  refine lL hs [.m 5 27] (lN (CG.listed (lL hs [.m 10 6] (lIn 11 ((k:Nat)+1) (k+1) ?_))))
  refine lL hs [.m 6 11] (lD ?_)
  intro a_ ka
  have q28:RTs h26 (ts++[((ineg ((0:Int):Rat).num,.slice A9 ((lim (iabs ((0:Int):Rat).num)).length) c10,.slice A13 ((lim ((0:Int):Rat).den).length) c14):RT)]) (rowq zs (k+1)):=(rowq_step ((if_neg oM).trans (show (0:Rat)=((0:Int):Rat) from rfl)) (RTs.snoc (hs.f.2.2.2.1) (rqOk hc11 hc15 (hs.f.2.2.1) (hs.f.2.1))))
  have q29:(k+1)≤n:=by omega
  replace hs:=(hs.tl.tl.tl.tl.add (K:=fun h_=>RTs h_ (ts++[((ineg ((0:Int):Rat).num,.slice A9 ((lim (iabs ((0:Int):Rat).num)).length) c10,.slice A13 ((lim ((0:Int):Rat).den).length) c14):RT)]) (rowq zs (k+1))) q28)
  refine ⟨_,_,?_,⟨k+1,A23,c24,ts++[((ineg ((0:Int):Rat).num,.slice A9 ((lim (iabs ((0:Int):Rat).num)).length) c10,.slice A13 ((lim ((0:Int):Rat).den).length) c14):RT)],h26,rfl,rfl,hs.to _ _,q29⟩,ka.to [(0,.slice A zs.length cap),(1,.int .i64 (n:Nat)),(4,.slice none 0 0),(6,.int .i64 ((k+1):Nat)),(5,.slice A23 (((ts++[((ineg ((0:Int):Rat).num,.slice A9 ((lim (iabs ((0:Int):Rat).num)).length) c10,.slice A13 ((lim ((0:Int):Rat).den).length) c14):RT)])).length) c24)] kR⟩
  omega
 have phb8:=oT hb8
 refine lB 15 hb8 ?_
 refine lN (cIT (CG.listed (lL hs [.m 16 5,.m 17 0,.m 18 6] (lX 19 A zs.length cap 1 (k:Nat) k ((hs.f.2.1).ok oM) ?_))))
 refine lH 20 (.int .i64 (zs.getD k 0)) hs ((hs.f.2.1).el k oM) ?_
 refine lC 21 hs (hR (zs.getD k 0) (hz k).1 (hz k).2 _ _ hs.g) ?_
 rintro _ w38 h39 hs ⟨A30,c31,A34,c35,rfl,hc32,hc36,hA33,hA37⟩
 replace hs:=((hs.a_SlO hA33).a_SlO hA37)
 refine lR 22 86 1 ([.bool (ineg (handRq (zs.getD k 0)).num),.slice A30 ((lim (iabs (handRq (zs.getD k 0)).num)).length) c31,.slice A34 ((lim (handRq (zs.getD k 0)).den).length) c35]) hs (fun b40 w41 h42 hs=>?_)
 refine lY 23 0 86 3 sc sA ts rqc ((ineg (handRq (zs.getD k 0)).num,.slice A30 ((lim (iabs (handRq (zs.getD k 0)).num)).length) c31,.slice A34 ((lim (handRq (zs.getD k 0)).den).length) c35):RT) 56 b40 (.agg #[.bool false,.slice none 0 0,.slice none 0 0]) hs (hs.f.1) (fun A44 c45 w46 h47 hs=>?_)
 refine lL hs [.m 5 23] (lN (CG.listed (lL hs [.m 10 6] (lIn 11 ((k:Nat)+1) (k+1) ?_))))
 refine lL hs [.m 6 11] (lD ?_)
 intro a_ ka
 have q49:RTs h47 (ts++[((ineg (handRq (zs.getD k 0)).num,.slice A30 ((lim (iabs (handRq (zs.getD k 0)).num)).length) c31,.slice A34 ((lim (handRq (zs.getD k 0)).den).length) c35):RT)]) (rowq zs (k+1)):=(rowq_step (if_pos oM) (RTs.snoc (hs.f.2.2.2.1) (rqOk hc32 hc36 (hs.f.2.2.1) (hs.f.2.1))))
 have q50:(k+1)≤n:=by omega
 replace hs:=(hs.tl.tl.tl.tl.add (K:=fun h_=>RTs h_ (ts++[((ineg (handRq (zs.getD k 0)).num,.slice A30 ((lim (iabs (handRq (zs.getD k 0)).num)).length) c31,.slice A34 ((lim (handRq (zs.getD k 0)).den).length) c35):RT)]) (rowq zs (k+1))) q49)
 refine ⟨_,_,?_,⟨k+1,A44,c45,ts++[((ineg (handRq (zs.getD k 0)).num,.slice A30 ((lim (iabs (handRq (zs.getD k 0)).num)).length) c31,.slice A34 ((lim (handRq (zs.getD k 0)).den).length) c35):RT)],h47,rfl,rfl,hs.to _ _,q50⟩,ka.to [(0,.slice A zs.length cap),(1,.int .i64 (n:Nat)),(4,.slice none 0 0),(6,.int .i64 ((k+1):Nat)),(5,.slice A44 (((ts++[((ineg (handRq (zs.getD k 0)).num,.slice A30 ((lim (iabs (handRq (zs.getD k 0)).num)).length) c31,.slice A34 ((lim (handRq (zs.getD k 0)).den).length) c35):RT)])).length) c45)] kR⟩
 omega
theorem hInRows (A:Option Addr)(cap:Nat)(vs:List Value)(qss:List (List Rat))(hl:qss.length≤1000000)(hls:∀ i,i<qss.length→(qss.getD i []).length≤1000000)(hf:∀ i,i<qss.length→∀ j,j<(qss.getD i []).length→LQ 100000000 ((qss.getD i []).getD j 0))(w:World)(h:Hp)(g:G w h)(hA:SlO 1 vc undef h A vs)(hT:RVs h vs qss)(tb:Tab h) :
    Calls Tryz.prog 18 #[.slice A vs.length cap] w (Ret w h fun v h1=>∃ A c,∃ us:List Value,v=.slice A us.length c∧us.length≤c∧SlO 1 vc undef h1 A us∧QVs h1 us qss):=by
 have hs:=SS.start g
 replace hs:=(((hs.a_SlO hA).add (K:=fun h_=>RVs h_ vs qss) hT).add (K:=fun h_=>Tab h_) tb)
 have hlen:=(hs.f.2.1).len
 refine go Tryz.func18 [(0,.slice A vs.length cap)] rfl ?_
 refine cSL (lL hs [.v 2 (.slice none 0 0)] (lNS (lL hs [.v 3 (.slice none 0 0)] (lN (CG.seq (cSL (lL hs [.v 4 (.int .i64 0)] (lN (CG.block ?_)))))))))
 replace hs:=hs.nil 35 1
 refine cTo [(0,.slice A vs.length cap),(2,.slice none 0 0),(4,.int .i64 0),(3,.slice none 0 0)] ?_
 replace hs:=hs.add (K:=fun h_=>QVs h_ ([]) (qss.take 0)) (QVs.nil)
 refine CG.loop (fun μ_ Γ w_=>∃ (k:Nat) (sA:Option Addr) (sc:Nat) (us:List Value) (h_:Hp),μ_=qss.length-k∧Γ=[(0,.slice A vs.length cap),(2,.slice none 0 0),(4,.int .i64 (k:Nat)),(3,.slice sA ((us).length) sc)]∧SS w h w_ h_ [] [⟨35,1,sA,sc,(us).length,(us).flatMap vc⟩] [fun h_=>QVs h_ us (qss.take k),fun h_=>Tab h_,fun h_=>RVs h_ vs qss,fun h_=>SlO 1 vc undef h_ A vs]∧(k≤qss.length)) _ ⟨0,none,0,[],h,rfl,rfl,hs.to _ _,Nat.zero_le _⟩ ?_
 rintro _ _ w1 ⟨k,sA,sc,us,h2,hm3,rfl,hs,hk⟩
 have hlU:=(hs.f.1).len
 have htk:(qss.take k).length=k:=by simp;omega
 refine CG.seq (cSL (lL hs [.m 5 4,.m 6 0,.v 7 (.int .i64 (vs.length:Nat))] ?_))
 cases hb4:(decide (((k:Nat):Int)<((vs.length:Nat):Int)))
 ·
  have phb4:=oF hb4
  refine lB 8 hb4 ?_
  refine lN (cIF (CG.exit ?_))
  show CG _ _ _ _ _ _ _ _
  refine cSL (lL hs [.m 19 3,.m 2 19] (lN (CG.ret ?_)))
  have hkq:qss.take k=qss:=List.take_of_length_le oM
  rw[hkq] at hs
  obtain ⟨h5,hs,hc6⟩:=hs.pubr 0 (A:=sA) (c:=sc) (l:=us) (f:=vc) (ty:=35) (sz:=1) undef (fun _=>rfl)
  exact hs.ret [] (.slice sA ((us).length) sc) (⟨_,_,us,rfl,hc6,(hs.f.1),(hs.f.2.1)⟩)
 have phb4:=oT hb4
 refine lB 8 hb4 ?_
 refine lN (cIT (CG.skipN (CG.seq (CG.block (CG.listed (lL hs [.m 11 3,.m 12 0,.m 13 4] (lX 14 A vs.length cap 1 (k:Nat) k ((hs.f.2.2.2.1).ok oM) ?_)))))))
 obtain ⟨Arx,crx,trx,erx,hcrx,hRrx,hTrx⟩:=(hs.f.2.2.1).at_ k oM
 have hlrx:=hTrx.len
 replace hs:=((hs.a_SlO hRrx).add (K:=fun h_=>RTs h_ trx (qss.getD k [])) hTrx)
 refine lHe 15 (vs.getD k undef) hs ((hs.f.2.2.2.2.2.1).el k oM) erx ?_
 refine lC 16 hs (hInRow Arx crx trx (qss.getD k []) (hls k oM) (hf k oM) _ _ hs.g (hs.f.2.1) (hs.f.1) (hs.f.2.2.2.1)) ?_
 rintro _ w8 h9 hs ⟨Au,cu,rfl,hcu,hAu⟩
 replace hs:=(hs.a_SlO hAu)
 refine lR 17 35 1 ([.slice Au ((qss.getD k []).length) cu]) hs (fun b10 w11 h12 hs=>?_)
 refine lY 18 0 35 1 sc sA us vc (.slice Au ((qss.getD k []).length) cu:Value) 24 b10 (.slice none 0 0) hs (hs.f.1) (fun A14 c15 w16 h17 hs=>?_)
 refine lL hs [.m 3 18] (lN (CG.listed (lL hs [.m 9 4] (lIn 10 ((k:Nat)+1) (k+1) ?_))))
 refine lL hs [.m 4 10] (lD ?_)
 intro a_ ka
 have q19:QVs h17 (us++[(.slice Au ((qss.getD k []).length) cu:Value)]) (qss.take (k+1)):=(by rw[take_snoc' [] oM];exact (hs.f.2.2.2.2.1).snoc ⟨Au,cu,rfl,hcu,(hs.f.2.1)⟩)
 have q20:(k+1)≤qss.length:=by omega
 replace hs:=(hs.tl.tl.tl.tl.tl.add (K:=fun h_=>QVs h_ (us++[(.slice Au ((qss.getD k []).length) cu:Value)]) (qss.take (k+1))) q19)
 refine ⟨_,_,?_,⟨k+1,A14,c15,us++[(.slice Au ((qss.getD k []).length) cu:Value)],h17,rfl,rfl,hs.to _ _,q20⟩,ka.to [(0,.slice A vs.length cap),(2,.slice none 0 0),(4,.int .i64 ((k+1):Nat)),(3,.slice A14 (((us++[(.slice Au ((qss.getD k []).length) cu:Value)])).length) c15)] kR⟩
 omega
theorem eq_more {α:Type}{d:α}{a b:List α}{k:Nat}(h:∀ i,i<k→a.getD i d=b.getD i d)(h2:a.getD k d=b.getD k d):∀ i,i<k+1→a.getD i d=b.getD i d:=fun i hi=>by
  by_cases e:i=k
  · rw[e];exact h2
  · exact h i oM
theorem row_t {α:Type}[DecidableEq α]{d:α}{a b:List α}(hl:a.length=b.length)(h:∀ i,i<a.length→a.getD i d=b.getD i d):Value.bool true=.bool (decide (a=b)):=by
  rw[decide_eq_true]
  refine List.ext_getElem hl (fun i h1 h2=>?_)
  have:=h i h1
  simpa [h1,h2] using this
theorem row_f {α:Type}[DecidableEq α]{a b:List α}(hl:a.length≠b.length):Value.bool false=.bool (decide (a=b)):=by
  rw[decide_eq_false];intro e;exact hl (by rw[e])
theorem row_fq {α:Type}[DecidableEq α]{d:α}{a b:List α}(k:Nat)(h:a.getD k d≠b.getD k d):Value.bool false=.bool (decide (a=b)):=by
  rw[decide_eq_false];intro e;exact h (by rw[e])
theorem hSameRow (A:Option Addr)(ca:Nat)(qs ps:List Rat)(D:Option Addr)(cd:Nat)(ts:List RT)(hl:qs.length≤1000000)(hlp:ps.length≤1000000)(hf:∀ i,i<qs.length→LQ 100000000 (qs.getD i 0))(hfp:∀ i,i<ps.length→LQ 100000000 (ps.getD i 0))(w:World)(h:Hp)(g:G w h)(hA:SlO 5 qc 0 h A qs)(hD:SlO 3 rqc rqd h D ts)(hT:RTs h ts ps) :
    Calls Tryz.prog 22 #[.slice A qs.length ca,.slice D ts.length cd] w (Ret w h fun v _=>v=.bool (decide (qs=ps))):=by
 have hs:=SS.start g
 replace hs:=(((hs.a_SlO hA).a_SlO hD).add (K:=fun h_=>RTs h_ ts ps) hT)
 have hlt:=(hs.f.1).len
 refine go Tryz.func22 [(0,.slice A qs.length ca),(1,.slice D ts.length cd)] rfl ?_
 refine cSL (lL hs [.v 4 (.bool false)] (lN (CG.seq (cSL (lL hs [.m 6 0,.v 7 (.int .i64 (qs.length:Nat)),.m 8 1,.v 9 (.int .i64 (ts.length:Nat))] ?_)))))
 cases hb1:(((qs.length:Nat):Int) != ((ts.length:Nat):Int))
 ·
  have phb1:=eqOfBne hb1
  refine lB 10 hb1 ?_
  refine lN (cIF (CG.skipN (CG.seq (cSL (lL hs [.v 5 (.int .i64 0)] (lN (CG.block (cTo [(0,.slice A qs.length ca),(1,.slice D ts.length cd),(5,.int .i64 0)] ?_))))))))
  refine CG.loop (fun μ_ Γ w_=>∃ (k:Nat) (h_:Hp),μ_=qs.length-k∧Γ=[(0,.slice A qs.length ca),(1,.slice D ts.length cd),(5,.int .i64 (k:Nat))]∧SS w h w_ h_ [] [] [fun h_=>RTs h_ ts ps,fun h_=>SlO 3 rqc rqd h_ D ts,fun h_=>SlO 5 qc 0 h_ A qs]∧(k≤qs.length)∧(qs.length=ps.length)∧(∀ i,i<k→qs.getD i 0=ps.getD i 0)) _ ⟨0,h,rfl,rfl,hs.to _ _,Nat.zero_le _,by omega,fun i hi=>absurd hi (Nat.not_lt_zero i)⟩ ?_
  rintro _ _ w2 ⟨k,h3,hm4,rfl,hs,hk,hlqp,hsm⟩
  refine CG.seq (cSL (lL hs [.m 11 5,.m 12 0,.v 13 (.int .i64 (qs.length:Nat))] ?_))
  cases hb5:(decide (((k:Nat):Int)<((qs.length:Nat):Int)))
  ·
   have phb5:=oF hb5
   refine lB 14 hb5 ?_
   refine lN (cIF (CG.exit ?_))
   show CG _ _ _ _ _ _ _ _
   exact cSL (lL hs [.v 4 (.bool true)] (lN (CG.ret (hs.ret [] (.bool true) (row_t hlqp (fun i hi=>hsm i oM))))))
  have phb5:=oT hb5
  refine lB 14 hb5 ?_
  refine lN (cIT (CG.skipN (CG.seq (CG.block (CG.seq (cR 10 [] mixed hs al_nil ?_))))))
  refine eV 0 17 (.slice A qs.length ca) ?_
  refine eV 1 18 (.int .i64 (k:Nat)) ?_
  refine eX 2 19 A qs.length ca 5 (k:Nat) k ((hs.f.2.2.1).ok oM) ?_
  refine eH 3 20 (qv (qs.getD k 0)) hs ((hs.f.2.2.1).el k oM) ?_
  refine eV 4 21 (.slice D ts.length cd) ?_
  refine eV 5 22 (.int .i64 (k:Nat)) ?_
  refine eX 6 23 D ts.length cd 3 (k:Nat) k ((hs.f.2.1).ok oM) ?_
  obtain ⟨Ax,cx,Dx,dx,ex,hcx,hdx,hAx,hDx⟩:=(hs.f.1).at_ k oM
  replace hs:=((hs.a_SlO hAx).a_SlO hDx)
  refine eHe 7 24 (.agg #[.bool ((ts.getD k rqd).1),(ts.getD k rqd).2.1,(ts.getD k rqd).2.2]) hs ((hs.f.2.2.2.1).el k oM) ex ?_
  refine eC 8 25 hs (fun _ _ hs=>hSame (qs.getD k 0) (ps.getD k 0) (hf k oM) (hfp k oM) Ax cx Dx dx hcx hdx _ _ hs.g (hs.f.2.1) (hs.f.1)) ?_
  rintro _ _ _ w6 h7 hs rfl
  cases hb8:(sameQ (qs.getD k 0) (ps.getD k 0))
  ·
   refine eV 9 26 (.bool true) ?_
   refine eD0 hs (fun w9 h10 hs=>?_)
   exact tN (cIT (cSL (lL hs [.v 4 (.bool false)] (lN (CG.ret (hs.ret [] (.bool false) (row_fq k (oF ‹sameQ _ _=false›))))))))
  refine eV 9 26 (.bool false) ?_
  refine eD0 hs (fun w11 h12 hs=>?_)
  refine tN (cIF (CG.skipN (CG.listed (lL hs [.m 15 5] (lIn 16 ((k:Nat)+1) (k+1) ?_)))))
  refine lL hs [.m 5 16] (lD ?_)
  intro a_ ka
  have q13:(k+1)≤qs.length:=by omega
  have q14:qs.length=ps.length:=hlqp
  have q15:∀ i,i<(k+1)→qs.getD i 0=ps.getD i 0:=(eq_more hsm (oT ‹sameQ _ _=true›))
  replace hs:=hs.tl.tl
  refine ⟨_,_,?_,⟨k+1,h12,rfl,rfl,hs.to _ _,q13,q14,q15⟩,ka.to [(0,.slice A qs.length ca),(1,.slice D ts.length cd),(5,.int .i64 ((k+1):Nat))] kR⟩
  omega
 have phb1:=neOfBne hb1
 refine lB 10 hb1 ?_
 exact lN (cIT (cSL (lL hs [.v 4 (.bool false)] (lN (CG.ret (hs.ret [] (.bool false) (row_f oM)))))))
theorem hSameInts (A:Option Addr)(ca:Nat)(xs ys:List Int)(D:Option Addr)(cd:Nat)(hl:xs.length≤1000000)(hlp:ys.length≤1000000)(w:World)(h:Hp)(g:G w h)(hA:SlO 1 i64c 0 h A xs)(hD:SlO 1 i64c 0 h D ys) :
    Calls Tryz.prog 60 #[.slice A xs.length ca,.slice D ys.length cd] w (Ret w h fun v _=>v=.bool (decide (xs=ys))):=by
 have hs:=SS.start g
 replace hs:=((hs.a_SlO hA).a_SlO hD)
 refine go Tryz.func60 [(0,.slice A xs.length ca),(1,.slice D ys.length cd)] rfl ?_
 refine cSL (lL hs [.v 4 (.bool false)] (lN (CG.seq (cSL (lL hs [.m 6 0,.v 7 (.int .i64 (xs.length:Nat)),.m 8 1,.v 9 (.int .i64 (ys.length:Nat))] ?_)))))
 cases hb1:(((xs.length:Nat):Int) != ((ys.length:Nat):Int))
 ·
  have phb1:=eqOfBne hb1
  refine lB 10 hb1 ?_
  refine lN (cIF (CG.skipN (CG.seq (cSL (lL hs [.v 5 (.int .i64 0)] (lN (CG.block (cTo [(0,.slice A xs.length ca),(1,.slice D ys.length cd),(5,.int .i64 0)] ?_))))))))
  refine CG.loop (fun μ_ Γ w_=>∃ (k:Nat) (h_:Hp),μ_=xs.length-k∧Γ=[(0,.slice A xs.length ca),(1,.slice D ys.length cd),(5,.int .i64 (k:Nat))]∧SS w h w_ h_ [] [] [fun h_=>SlO 1 i64c 0 h_ D ys,fun h_=>SlO 1 i64c 0 h_ A xs]∧(k≤xs.length)∧(xs.length=ys.length)∧(∀ i,i<k→xs.getD i 0=ys.getD i 0)) _ ⟨0,h,rfl,rfl,hs.to _ _,Nat.zero_le _,by omega,fun i hi=>absurd hi (Nat.not_lt_zero i)⟩ ?_
  rintro _ _ w2 ⟨k,h3,hm4,rfl,hs,hk,hlqp,hsm⟩
  refine CG.seq (cSL (lL hs [.m 11 5,.m 12 0,.v 13 (.int .i64 (xs.length:Nat))] ?_))
  cases hb5:(decide (((k:Nat):Int)<((xs.length:Nat):Int)))
  ·
   have phb5:=oF hb5
   refine lB 14 hb5 ?_
   refine lN (cIF (CG.exit ?_))
   show CG _ _ _ _ _ _ _ _
   exact cSL (lL hs [.v 4 (.bool true)] (lN (CG.ret (hs.ret [] (.bool true) (row_t hlqp (fun i hi=>hsm i oM))))))
  have phb5:=oT hb5
  refine lB 14 hb5 ?_
  refine lN (cIT (CG.skipN (CG.seq (CG.block (CG.seq (cR 9 [] mixed hs al_nil ?_))))))
  refine eV 0 17 (.slice A xs.length ca) ?_
  refine eV 1 18 (.int .i64 (k:Nat)) ?_
  refine eX 2 19 A xs.length ca 1 (k:Nat) k ((hs.f.2.1).ok oM) ?_
  refine eH 3 20 (.int .i64 (xs.getD k 0)) hs ((hs.f.2.1).el k oM) ?_
  refine eV 4 21 (.slice D ys.length cd) ?_
  refine eV 5 22 (.int .i64 (k:Nat)) ?_
  refine eX 6 23 D ys.length cd 1 (k:Nat) k ((hs.f.1).ok oM) ?_
  refine eH 7 24 (.int .i64 (ys.getD k 0)) hs ((hs.f.1).el k oM) ?_
  cases hb6:((xs.getD k 0:Int) != (ys.getD k 0:Int))
  ·
   have phb6:=eqOfBne hb6
   refine eB 8 25 hb6 ?_
   refine eD0 hs (fun w7 h8 hs=>?_)
   refine tN (cIF (CG.skipN (CG.listed (lL hs [.m 15 5] (lIn 16 ((k:Nat)+1) (k+1) ?_)))))
   refine lL hs [.m 5 16] (lD ?_)
   intro a_ ka
   have q9:(k+1)≤xs.length:=by omega
   have q10:xs.length=ys.length:=hlqp
   have q11:∀ i,i<(k+1)→xs.getD i 0=ys.getD i 0:=(eq_more hsm oM)
   refine ⟨_,_,?_,⟨k+1,h8,rfl,rfl,hs.to _ _,q9,q10,q11⟩,ka.to [(0,.slice A xs.length ca),(1,.slice D ys.length cd),(5,.int .i64 ((k+1):Nat))] kR⟩
   omega
  have phb6:=neOfBne hb6
  refine eB 8 25 hb6 ?_
  refine eD0 hs (fun w12 h13 hs=>?_)
  exact tN (cIT (cSL (lL hs [.v 4 (.bool false)] (lN (CG.ret (hs.ret [] (.bool false) (row_fq k oM)))))))
 have phb1:=neOfBne hb1
 refine lB 10 hb1 ?_
 exact lN (cIT (cSL (lL hs [.v 4 (.bool false)] (lN (CG.ret (hs.ret [] (.bool false) (row_f oM)))))))
def maxR (a b:Rat):Rat:=if a<b then b else a
theorem LQ.maxR {k:Nat}{a b:Rat}(ha:LQ k a)(hb:LQ k b):LQ k (maxR a b):=by unfold Go.Proofs.YtphakaomkmhbaaaGreatDoor.maxR;split;exact hb;exact ha
theorem fAbs (a:Rat)(ha:LQ 100000000 a)(w:World)(h:Hp)(g:G w h) :
    Calls Tryz.prog 201 #[qv a] w (Ret w h fun v _=>v=qv (qabs a)):=by
 have hs:=SS.start g
 refine go Tryz.func201 [(0,qv a)] rfl ?_
 refine cSL (lA 1 74 (qc a) hs (fun b1 w2 h3 hs=>?_))
 refine lA 2 74 ([.bool false,.int .u64 0,.string ⟨#[]⟩,.int .u64 0,.string ⟨#[]⟩]) hs (fun b4 w5 h6 hs=>?_)
 refine lN (CG.seq (cR 7 [] mixed hs al_nil ?_))
 refine eV 0 3 (.pointer (some ⟨b1,0,none⟩)) ?_
 refine eO 1 4 [(1,0,3)] (iv a.num) hs ?_
 refine eV 4 7 (.pointer (some ⟨b1,3,none⟩)) ?_
 refine eO 5 8 [(1,3,2)] (nv (qd a)) hs ?_
 refine eC 2 5 hs (fun _ _ hs=>wAbs a.num _ _ hs.g) ?_
 rintro _ _ _ w7 h8 hs rfl
 refine eC 3 6 hs (fun _ _ hs=>wFromN (iabs a.num) _ _ hs.g) ?_
 rintro _ _ _ w9 h10 hs rfl
 refine eV 6 9 (.agg #[.bool (ineg (((iabs a.num):Nat):Int)),.int .u64 (lo (iabs (((iabs a.num):Nat):Int))),.string (hi (iabs (((iabs a.num):Nat):Int))),.int .u64 (lo (qd a)),.string (hi (qd a))]) ?_
 refine eD0 hs (fun w11 h12 hs=>?_)
 refine tP 7 0 0 ([.bool (ineg (((iabs a.num):Nat):Int)),.int .u64 (lo (iabs (((iabs a.num):Nat):Int))),.string (hi (iabs (((iabs a.num):Nat):Int))),.int .u64 (lo (qd a)),.string (hi (qd a))]) hs (fun w13 hs=>?_)
 exact tN (CG.ret (hs.ret [(0,0,5)] (.agg #[.bool (ineg (((iabs a.num):Nat):Int)),.int .u64 (lo (iabs (((iabs a.num):Nat):Int))),.string (hi (iabs (((iabs a.num):Nat):Int))),.int .u64 (lo (qd a)),.string (hi (qd a))]) (qv_lit (qabs_num a) (by unfold qd;rw[qabs_den]))))
theorem fDot (A:Option Addr)(ca:Nat)(a:List Rat)(D:Option Addr)(cd:Nat)(b:List Rat)(K L:Nat)(hl:a.length=b.length)(hn:a.length≤1000000)(hb:a.length*(K+L+1)+K+L+2≤100000000)(ha:∀ i,i<a.length→LQ K (a.getD i 0))(hbb:∀ i,i<a.length→LQ L (b.getD i 0))(w:World)(h:Hp)(g:G w h)(hA:SlO 5 qc 0 h A a)(hD:SlO 5 qc 0 h D b)(tb:Tab h) :
    Calls Tryz.prog 62 #[.slice A a.length ca,.slice D b.length cd] w (Ret w h fun v _=>v=.tuple #[qv (dotq a b a.length),.bool true]):=by
 have hs:=SS.start g
 replace hs:=(((hs.a_SlO hA).a_SlO hD).add (K:=fun h_=>Tab h_) tb)
 refine go Tryz.func62 [(0,.slice A a.length ca),(1,.slice D b.length cd)] rfl ?_
 refine cSL (lA 4 74 ([.bool false,.int .u64 0,.string ⟨#[]⟩,.int .u64 0,.string ⟨#[]⟩]) hs (fun b1 w2 h3 hs=>?_))
 refine lL hs [.v 5 (.bool false)] (lN (CG.seq (cSL (lL hs [.m 9 0,.v 10 (.int .i64 (a.length:Nat)),.m 11 1,.v 12 (.int .i64 (b.length:Nat))] ?_))))
 have hb4:(((a.length:Nat):Int) != ((b.length:Nat):Int))=false:=bneF oM
 have phb4:=eqOfBne hb4
 refine lB 13 hb4 ?_
 refine lN (cIF (CG.skipN (cSL (lA 6 74 ([.bool false,.int .u64 0,.string ⟨#[]⟩,.int .u64 0,.string ⟨#[]⟩]) hs (fun b5 w6 h7 hs=>?_)))))
 refine lN (CG.seq (cSL (lL hs [.m 15 0,.v 16 (.int .i64 (a.length:Nat)),.v 17 (.int .i64 0)] (lN (CG.block (cTo [(1,.slice D b.length cd),(4,.pointer (some ⟨b1,0,none⟩)),(5,.bool false),(6,.pointer (some ⟨b5,0,none⟩)),(15,.slice A a.length ca),(16,.int .i64 (a.length:Nat)),(17,.int .i64 0)] ?_))))))
 refine CG.loop (fun μ_ Γ w_=>∃ (k:Nat) (h_:Hp),μ_=a.length-k∧Γ=[(1,.slice D b.length cd),(4,.pointer (some ⟨b1,0,none⟩)),(5,.bool false),(6,.pointer (some ⟨b5,0,none⟩)),(15,.slice A a.length ca),(16,.int .i64 (a.length:Nat)),(17,.int .i64 (k:Nat))]∧SS w h w_ h_ [⟨b5,74,qc (dotq a b k)⟩,⟨b1,74,[.bool false,.int .u64 0,.string ⟨#[]⟩,.int .u64 0,.string ⟨#[]⟩]⟩] [] [fun h_=>Tab h_,fun h_=>SlO 5 qc 0 h_ D b,fun h_=>SlO 5 qc 0 h_ A a]∧(k≤a.length)) _ ⟨0,h7,rfl,rfl,hs.to _ _,Nat.zero_le _⟩ ?_
 rintro _ _ w8 ⟨k,h9,hm10,rfl,hs,hk⟩
 have hmk:k*(K+L+1)≤a.length*(K+L+1):=Nat.mul_le_mul_right _ hk
 have hdk:LQ (100000000-K-L-1) (dotq a b k):=(LQ.dot ha hbb k hk).mono oM
 refine cSL ?_
 cases hb11:(decide (((k:Nat):Int)<((a.length:Nat):Int)))
 ·
  have phb11:=oF hb11
  refine lB 18 hb11 ?_
  refine lN (CG.seq (cIF (CG.exit ?_)))
  show CG _ _ _ _ _ _ _ _
  refine cSL (lL hs [.o 31 (qv (dotq a b k)) 0 0 5] (lP 1 0 (qc (dotq a b k)) hs (fun w12 hs=>?_)))
  exact lL hs [.v 5 (.bool true)] (lN (CG.ret (hs.ret [(1,0,5)] (.tuple #[qv (dotq a b k),.bool true]) (by rw[show a.length=k by omega]))))
 have phb11:=oT hb11
 refine lB 18 hb11 ?_
 refine lN (CG.seq (cIT (CG.skipN (CG.seq (CG.block (cSL (lL hs [.m 19 17] (lX 20 A a.length ca 5 (k:Nat) k ((hs.f.2.2.1).ok oM) ?_))))))))
 refine lH 21 (qv (a.getD k 0)) hs ((hs.f.2.2.1).el k oM) ?_
 refine lA 8 74 ([.bool false,.int .u64 0,.string ⟨#[]⟩,.int .u64 0,.string ⟨#[]⟩]) hs (fun b13 w14 h15 hs=>?_)
 refine lL hs [.m 7 19] (lP 0 0 (qc (a.getD k 0)) hs (fun w16 hs=>?_))
 refine lN (cR 8 [] mixed hs al_nil ?_)
 refine eO 0 22 [(1,0,5)] (qv (dotq a b k)) hs ?_
 refine eO 1 23 [(0,0,5)] (qv (a.getD k 0)) hs ?_
 refine eV 2 24 (.slice D b.length cd) ?_
 refine eV 3 25 (.int .i64 (k:Nat)) ?_
 refine eX 4 26 D b.length cd 5 (k:Nat) k ((hs.f.2.1).ok oM) ?_
 refine eH 5 27 (qv (b.getD k 0)) hs ((hs.f.2.1).el k oM) ?_
 have hq17:LQ (K+L) ((a.getD k 0)*(b.getD k 0)):=LQ.mul (ha k oM) (hbb k oM)
 refine eC 6 28 hs (fun _ _ hs=>fMul (a.getD k 0) (b.getD k 0) (LQ.mono (ha k oM) oM) (LQ.mono (hbb k oM) oM) _ _ hs.g (hs.f.1)) ?_
 rintro _ _ _ w18 h19 hs rfl
 have hq20:LQ ((100000000-K-L-1)+(K+L)+1) ((dotq a b k)+((a.getD k 0)*(b.getD k 0))):=LQ.add hdk hq17
 refine eC 7 29 hs (fun _ _ hs=>fAdd (dotq a b k) ((a.getD k 0)*(b.getD k 0)) (LQ.mono hdk oM) (LQ.mono hq17 oM) _ _ hs.g (hs.f.1)) ?_
 rintro _ _ _ w21 h22 hs rfl
 refine eD0 hs (fun w23 h24 hs=>?_)
 refine tP 8 1 0 (qc ((dotq a b k)+((a.getD k 0)*(b.getD k 0)))) hs (fun w25 hs=>?_)
 refine tN (CG.listed (lIn 30 ((k:Nat)+1) (k+1) ?_))
 refine lL hs [.m 17 30] (lD ?_)
 intro a_ ka
 have q26:(k+1)≤a.length:=by omega
 replace hs:=hs.drop 1 0
 refine ⟨_,_,?_,⟨k+1,h24,rfl,rfl,hs.to _ _,q26⟩,ka.to [(1,.slice D b.length cd),(4,.pointer (some ⟨b1,0,none⟩)),(5,.bool false),(6,.pointer (some ⟨b5,0,none⟩)),(15,.slice A a.length ca),(16,.int .i64 (a.length:Nat)),(17,.int .i64 ((k+1):Nat))] kR⟩
 omega
structure Lay where
  k:Int
  W:List (List Rat)
  B:List Rat
def lay0:Lay:=⟨0,[],[]⟩
abbrev LV:=Int × Value × Value
def lvc (t:LV):List Value:=[.int .i64 t.1,t.2.1,t.2.2]
def lvd:LV:=(0,undef,undef)
structure NetL (h:Hp) (ts:List LV) (ls:List Lay):Prop where
  len:ts.length=ls.length
  at_:∀ i,i<ls.length→(ts.getD i lvd).1=(ls.getD i lay0).k∧(∃ A c,∃ us:List Value,(ts.getD i lvd).2.1=.slice A us.length c∧us.length≤c∧SlO 1 vc undef h A us∧QVs h us (ls.getD i lay0).W)∧SlV 5 qc 0 h (ts.getD i lvd).2.2 (ls.getD i lay0).B
theorem NetL.gw {h h':Hp}{ts:List LV}{ls:List Lay}(r:NetL h ts ls)(u:Gw h h'):NetL h' ts ls:=⟨r.len,fun i hi=>by
  obtain ⟨h1,⟨A,c,us,h2,h3,h4,h5⟩,h6⟩:=r.at_ i hi
  exact ⟨h1,⟨A,c,us,h2,h3,h4.gw u,h5.gw u⟩,h6.gw u⟩⟩
structure RNetL (h:Hp) (ts:List LV) (ls:List Lay):Prop where
  len:ts.length=ls.length
  at_:∀ i,i<ls.length→(ts.getD i lvd).1=(ls.getD i lay0).k∧(∃ A c,∃ us:List Value,(ts.getD i lvd).2.1=.slice A us.length c∧us.length≤c∧SlO 1 vc undef h A us∧RVs h us (ls.getD i lay0).W) ∧
    (∃ A c,∃ rs:List RT,(ts.getD i lvd).2.2=.slice A rs.length c∧rs.length≤c∧SlO 3 rqc rqd h A rs∧RTs h rs (ls.getD i lay0).B)
theorem RNetL.gw {h h':Hp}{ts:List LV}{ls:List Lay}(r:RNetL h ts ls)(u:Gw h h'):RNetL h' ts ls:=⟨r.len,fun i hi=>by
  obtain ⟨h1,⟨A,c,us,h2,h3,h4,h5⟩,⟨D,e,rs,g2,g3,g4,g5⟩⟩:=r.at_ i hi
  exact ⟨h1,⟨A,c,us,h2,h3,h4.gw u,h5.gw u⟩,⟨D,e,rs,g2,g3,g4.gw u,g5.gw u⟩⟩⟩
theorem NetL.nil {h:Hp}:NetL h [] []:=⟨rfl,fun i hi=>by simp at hi⟩
theorem RNetL.nil {h:Hp}:RNetL h [] []:=⟨rfl,fun i hi=>by simp at hi⟩
theorem NetL.snoc {h:Hp}{ts:List LV}{ls:List Lay}(r:NetL h ts ls){t:LV}{L:Lay}(hx:t.1=L.k∧(∃ A c,∃ us:List Value,t.2.1=.slice A us.length c∧us.length≤c∧SlO 1 vc undef h A us∧QVs h us L.W)∧SlV 5 qc 0 h t.2.2 L.B):NetL h (ts++[t]) (ls++[L]):=by
  refine ⟨by simp[r.len],fun i hi=>?_⟩
  rw[getD_snoc,getD_snoc,r.len]
  split
  · rename_i h1;exact r.at_ i h1
  · rename_i h1
    have:i=ls.length:=by simp at hi;omega
    rw[if_pos this,if_pos this];exact hx
theorem RNetL.snoc {h:Hp}{ts:List LV}{ls:List Lay}(r:RNetL h ts ls){t:LV}{L:Lay}(hx:t.1=L.k∧(∃ A c,∃ us:List Value,t.2.1=.slice A us.length c∧us.length≤c∧SlO 1 vc undef h A us∧RVs h us L.W) ∧
    (∃ A c,∃ rs:List RT,t.2.2=.slice A rs.length c∧rs.length≤c∧SlO 3 rqc rqd h A rs∧RTs h rs L.B)):RNetL h (ts++[t]) (ls++[L]):=by
  refine ⟨by simp[r.len],fun i hi=>?_⟩
  rw[getD_snoc,getD_snoc,r.len]
  split
  · rename_i h1;exact r.at_ i h1
  · rename_i h1
    have:i=ls.length:=by simp at hi;omega
    rw[if_pos this,if_pos this];exact hx
def natc (n:Nat):List Value:=[.int .i64 (n:Int)]
def netSizes (i m o:Int):List Nat:=if 0<pick m 4 then [pick i 3+1,pick m 4,pick o 3+1] else [pick i 3+1,pick o 3+1]
def kindAt (k:Int):Nat→Int
  | 0=>k
  | n+1=>(kindAt k n).tdiv 3
theorem kindAt_bd {k:Int}(h : -9223372036854775808≤k∧k≤9223372036854775807)(n:Nat) : -9223372036854775808≤(kindAt k n).tdiv 3∧(kindAt k n).tdiv 3≤9223372036854775807:=by
  induction n with
  | zero=>exact tdiv_bd k 3 oM h.1 h.2
  | succ n ih=>exact tdiv_bd _ 3 oM ih.1 ih.2
def Smalls (l:List Rat):Prop:=∀ q∈l,∃ z,q=smallq z
theorem Smalls.snoc {l:List Rat}(h:Smalls l)(z:Int):Smalls (l++[smallq z]):=fun q hq=>by
  rcases List.mem_append.1 hq with h1|h1
  · exact h q h1
  · exact ⟨z,List.mem_singleton.1 h1⟩
theorem rows_snoc {Wl:List (List Rat)}{n:Nat}(h:∀ r∈Wl,r.length=n∧Smalls r){q:List Rat}(hl:q.length=n)(hq:Smalls q):∀ r∈Wl++[q],r.length=n∧Smalls r:=fun r hr=>by
  rcases List.mem_append.1 hr with h1|h1
  · exact h r h1
  · rw[List.mem_singleton.1 h1];exact ⟨hl,hq⟩
structure LayMk (L:Lay) (kq:Nat) (r c:Nat):Prop where
  k:L.k=(kq:Int)
  rows:L.W.length=r
  row:∀ q∈L.W,q.length=c∧Smalls q
  bl:L.B.length=r
  bs:Smalls L.B
theorem mk_snoc {ls:List Lay}{L:Lay}{f g e:Nat→Nat}(h:∀ i,i<ls.length→LayMk (ls.getD i lay0) (f i) (g i) (e i))(hL:LayMk L (f ls.length) (g ls.length) (e ls.length)):∀ i,i<(ls++[L]).length→LayMk ((ls++[L]).getD i lay0) (f i) (g i) (e i):=by
  intro i hi
  rw[getD_snoc]
  split
  · rename_i h1;exact h i h1
  · rename_i h1
    have:i=ls.length:=by simp at hi;omega
    rw[if_pos this,this];exact hL
theorem sizes_len (i m o:Int):(netSizes i m o).length=2∨(netSizes i m o).length=3:=by unfold netSizes;split<;>simp
theorem sizes_le (i m o:Int)(k:Nat):(netSizes i m o).getD k 0≤4:=by
  have h1:=pick_lt i 3 oM
  have h2:=pick_lt m 4 oM
  have h3:=pick_lt o 3 oM
  unfold netSizes
  split<;>(rcases k with _|_|_|k<;>simp<;>omega)
theorem sizes_pos (i m o:Int)(k:Nat)(hk:k<(netSizes i m o).length):0<(netSizes i m o).getD k 0:=by
  unfold netSizes at *
  split at hk
  · rename_i h;rw[if_pos h];rcases k with _|_|_|k<;>simp at hk ⊢ <;> omega
  · rename_i h;rw[if_neg h];rcases k with _|_|k<;>simp at hk ⊢ <;> omega
theorem rNext (A:Option Addr)(cap:Nat)(zs:List Int)(hl:zs.length≤9223372036854775807)(hz:I64s zs)(rbk at_:Nat)(ha:at_≤zs.length)(w:World)(h:Hp)(g:G w h)(ho:Own w rbk 172 [.slice A zs.length cap,.int .i64 (at_:Nat)])(hj:h[rbk]?=some junk)(hA:SlO 1 i64c 0 h A zs) :
    Calls Tryz.prog 101 #[.pointer (some ⟨rbk,0,none⟩)] w (RetM rbk w h fun v w' _=>∃ (z:Int) (at2:Nat),v=.int .i64 z∧at2≤zs.length∧(-9223372036854775808≤z∧z≤9223372036854775807)∧Own w' rbk 172 [.slice A zs.length cap,.int .i64 (at2:Nat)]):=by
 have hmo:UpM [rbk] w h w h:=UpM.refl g
 obtain ⟨wz,hz0_,hs⟩:=SS.at_ g ho hj
 replace hs:=(hs.a_SlO hA)
 refine go Tryz.func101 [(0,.pointer (some ⟨rbk,0,none⟩))] rfl ?_
 refine cSL (lL hs [.v 2 (.int .i64 0)] (lN (CG.seq (CG.seq (cR 10 [] mixed hs al_nil ?_)))))
 refine eV 0 3 (.pointer (some ⟨rbk,0,none⟩)) ?_
 refine eV 1 4 (.pointer (some ⟨rbk,0,none⟩)) ?_
 refine eV 2 5 (.pointer (some ⟨rbk,1,none⟩)) ?_
 refine eO 3 6 [(0,1,1)] (.int .i64 (at_:Nat)) hs ?_
 refine eV 4 7 (.pointer (some ⟨rbk,0,none⟩)) ?_
 refine eV 5 8 (.pointer (some ⟨rbk,0,none⟩)) ?_
 refine eV 6 9 (.pointer (some ⟨rbk,0,none⟩)) ?_
 refine eO 7 10 [(0,0,1)] (.slice A zs.length cap) hs ?_
 refine eV 8 11 (.int .i64 (zs.length:Nat)) ?_
 cases hb1:(decide (((zs.length:Nat):Int)≤((at_:Nat):Int)))
 ·
  have phb1:=oF hb1
  refine eB 9 12 hb1 ?_
  refine eD0u hs (fun w2 h3 u4 hs=>?_)
  replace hmo:=hmo.trans (u4.m _)
  refine tN (cIF (CG.skipN (cSL (lL hs [.m 13 0,.v 14 (.pointer (some ⟨rbk,0,none⟩)),.v 15 (.pointer (some ⟨rbk,1,none⟩)),.o 16 (.int .i64 (at_:Nat)) 0 1 1] (lIn 17 ((at_:Nat)+1) (at_+1) ?_)))))
  refine lL hs [.v 18 (.pointer (some ⟨rbk,0,none⟩)),.v 19 (.pointer (some ⟨rbk,1,none⟩))] (lPu 0 1 ([.int .i64 (at_+1:Nat)]) hs (fun w5 pu hs=>?_))
  replace hmo:=hmo.put pu (List.mem_singleton.2 rfl) hs.g
  refine lN (CG.seq (cR 11 [] mixed hs al_nil ?_))
  refine eV 0 20 (.pointer (some ⟨rbk,0,none⟩)) ?_
  refine eV 1 21 (.pointer (some ⟨rbk,0,none⟩)) ?_
  refine eV 2 22 (.pointer (some ⟨rbk,0,none⟩)) ?_
  refine eO 3 23 [(0,0,1)] (.slice A zs.length cap) hs ?_
  refine eV 4 24 (.pointer (some ⟨rbk,0,none⟩)) ?_
  refine eV 5 25 (.pointer (some ⟨rbk,0,none⟩)) ?_
  refine eV 6 26 (.pointer (some ⟨rbk,1,none⟩)) ?_
  refine eO 7 27 [(0,1,1)] (.int .i64 (at_+1:Nat)) hs ?_
  refine eIn 8 28 ((at_+1:Nat)-1) ((at_+1)-1) ?_
  refine eX 9 29 A zs.length cap 1 ((at_+1)-1:Nat) ((at_+1)-1) ((hs.f.1).ok oM) ?_
  refine eH 10 30 (.int .i64 (zs.getD ((at_+1)-1) 0)) hs ((hs.f.1).el ((at_+1)-1) oM) ?_
  refine eD0u hs (fun w6 h7 u8 hs=>?_)
  replace hmo:=hmo.trans (u8.m _)
  refine tV 11 2 (.int .i64 (zs.getD ((at_+1)-1) 0)) ?_
  exact tN (CG.ret (hs.retM hmo [] (.int .i64 (zs.getD ((at_+1)-1) 0)) ⟨zs.getD ((at_+1)-1) 0,(at_+1),rfl,by omega,hz _,hs.own 0⟩))
 have phb1:=oT hb1
 refine eB 9 12 hb1 ?_
 refine eD0u hs (fun w9 h10 u11 hs=>?_)
 replace hmo:=hmo.trans (u11.m _)
 exact tN (cIT (cSL (lL hs [.v 2 (.int .i64 0)] (lN (CG.ret (hs.retM hmo [] (.int .i64 0) ⟨0,at_,rfl,by omega,⟨by decide,by decide⟩,hs.own 0⟩))))))
theorem mNet (A:Option Addr)(cap:Nat)(zs:List Int)(hl:zs.length≤9223372036854775807)(hz:I64s zs)(i_ m_ o_ kd:Int)(hkd : -9223372036854775808≤kd∧kd≤9223372036854775807)(w:World)(h:Hp)(g:G w h)(hA:SlO 1 i64c 0 h A zs) :
    Calls Tryz.prog 24 #[.slice A zs.length cap,.int .i64 i_,.int .i64 m_,.int .i64 o_,.int .i64 kd] w (Ret w h fun v h1=>∃ A c,∃ us:List LV,∃ ls:List Lay,v=.agg #[.slice A us.length c]∧us.length≤c∧SlO 3 lvc lvd h1 A us∧RNetL h1 us ls∧ls.length+1=(netSizes i_ m_ o_).length∧∀ i,i<ls.length→LayMk (ls.getD i lay0) (pick (kindAt kd i) 3+1:Nat) ((netSizes i_ m_ o_).getD (i+1) 0) ((netSizes i_ m_ o_).getD i 0)):=by
 have hs:=SS.start g
 replace hs:=(hs.a_SlO hA)
 refine go Tryz.func24 [(0,.slice A zs.length cap),(1,.int .i64 i_),(2,.int .i64 m_),(3,.int .i64 o_),(4,.int .i64 kd)] rfl ?_
 refine cSL (lA 10 49 ([.slice none 0 0]) hs (fun b1 w2 h3 hs=>?_))
 refine lNS (lL hs [.m 20 0,.v 21 (.agg #[.slice A zs.length cap,.int .i64 0])] (lA 22 172 ([.slice A zs.length cap,.int .i64 0]) hs (fun b4 w5 h6 hs=>?_)))
 refine lL hs [.m 11 22] (lNS (lL hs [.m 23 1] (lC 24 hs (hPick (i_) 3 oM oM _ _ hs.g) ?_)))
 rintro _ w8 h9 hs rfl
 have lp7:=pick_lt (i_) 3 oM
 refine lIn 25 ((pick (i_) 3:Nat)+1) ((pick (i_) 3)+1) ?_
 refine lL hs [.m 26 3] (lC 27 hs (hPick (o_) 3 oM oM _ _ hs.g) ?_)
 rintro _ w11 h12 hs rfl
 have lp10:=pick_lt (o_) 3 oM
 refine lIn 28 ((pick (o_) 3:Nat)+1) ((pick (o_) 3)+1) ?_
 refine lR 29 3 2 ([.int .i64 ((pick (i_) 3)+1:Nat),.int .i64 ((pick (o_) 3)+1:Nat)]) hs (fun b13 w14 h15 hs=>?_)
 obtain ⟨S17,hSe18⟩:∃ S:List Nat,S=[((pick (i_) 3)+1:Nat),((pick (o_) 3)+1:Nat)]:=⟨_,rfl⟩
 have S17_l:S17.length=2:=by rw[hSe18];rfl
 replace hs:=hs.a_SlO (SlO.of_flat (sz:=1) (f:=natc) (d:=0) (l:=S17) (fun _=>rfl) (by rw[hSe18];exact (hs.f.1)))
 refine lL hs [.m 12 29] (lN (CG.join (fun Γ w_=>∃ (Az:Option Addr) (S:List Nat) (nS:Nat) (h_:Hp),Γ=[(4,.int .i64 kd),(10,.pointer (some ⟨b1,0,none⟩)),(11,.pointer (some ⟨b4,0,none⟩)),(12,.slice Az nS nS)]∧SS w h w_ h_ [⟨b4,172,[.slice A zs.length cap,.int .i64 0]⟩,⟨b1,49,[.slice none 0 0]⟩] [] [fun h_=>SlO 1 natc 0 h_ Az S,fun h_=>SlO 1 natc 0 h_ (some ⟨b13,0,none⟩) S17,fun h_=>Seg h_ b13 0 ([.int .i64 ((pick (i_) 3)+1:Nat),.int .i64 ((pick (o_) 3)+1:Nat)]),fun h_=>SlO 1 i64c 0 h_ A zs]∧(S=netSizes i_ m_ o_)∧(S.length=nS)) ?_ ?_))
 ·
  refine cSL (lL hs [.m 30 2] (lC 31 hs (hPick (m_) 4 oM oM _ _ hs.g) ?_))
  rintro _ w21 h22 hs rfl
  have lp20:=pick_lt (m_) 4 oM
  refine lL hs [.m 13 31] (lNS (lL hs [.m 32 13] ?_))
  cases hb23:(decide ((0:Int)<((pick (m_) 4:Nat):Int)))
  ·
   have phb23:=oF hb23
   refine lB 33 hb23 ?_
   refine lN (cIF (CG.skip ?_))
   intro a_ ka
   have q24:SlO 1 natc 0 h22 (some ⟨b13,0,none⟩) S17:=(hs.f.1)
   have q25:S17=netSizes i_ m_ o_:=by rw[hSe18];unfold netSizes;rw[if_neg oM]
   have q26:S17.length=2:=S17_l
   replace hs:=(hs.add (K:=fun h_=>SlO 1 natc 0 h_ (some ⟨b13,0,none⟩) S17) q24)
   exact ⟨_,⟨some ⟨b13,0,none⟩,S17,2,h22,rfl,hs.to _ _,q25,q26⟩,ka.to [(4,.int .i64 kd),(10,.pointer (some ⟨b1,0,none⟩)),(11,.pointer (some ⟨b4,0,none⟩)),(12,.slice (some ⟨b13,0,none⟩) 2 2)] kR⟩
  have phb23:=oT hb23
  refine lB 33 hb23 ?_
  refine lN (cIT (cR 8 [] mixed hs al_nil ?_))
  refine eV 0 34 (.slice (some ⟨b13,0,none⟩) 2 2) ?_
  refine eX 1 35 (some ⟨b13,0,none⟩) 2 2 1 0 0 ((hs.f.1).ok oM) ?_
  refine eH 2 36 (.int .i64 (S17.getD 0 0:Nat)) hs ((hs.f.1).el 0 oM) ?_
  refine eV 3 37 (.int .i64 (pick (m_) 4:Nat)) ?_
  refine eV 4 38 (.slice (some ⟨b13,0,none⟩) 2 2) ?_
  refine eX 5 39 (some ⟨b13,0,none⟩) 2 2 1 1 1 ((hs.f.1).ok oM) ?_
  refine eH 6 40 (.int .i64 (S17.getD 1 0:Nat)) hs ((hs.f.1).el 1 oM) ?_
  refine eR 7 41 3 3 ([.int .i64 (S17.getD 0 0:Nat),.int .i64 (pick (m_) 4:Nat),.int .i64 (S17.getD 1 0:Nat)]) hs (fun b27 w28 h29 hs=>?_)
  obtain ⟨S31,hSe32⟩:∃ S:List Nat,S=[(S17.getD 0 0),(pick (m_) 4),(S17.getD 1 0)]:=⟨_,rfl⟩
  have S31_l:S31.length=3:=by rw[hSe32];rfl
  replace hs:=hs.a_SlO (SlO.of_flat (sz:=1) (f:=natc) (d:=0) (l:=S31) (fun _=>rfl) (by rw[hSe32];exact (hs.f.1)))
  refine eD0 hs (fun w34 h35 hs=>?_)
  refine tV 8 12 (.slice (some ⟨b27,0,none⟩) 3 3) ?_
  refine tD ?_
  intro a_ ka
  have q36:SlO 1 natc 0 h35 (some ⟨b27,0,none⟩) S31:=(hs.f.1)
  have q37:S31=netSizes i_ m_ o_:=by rw[hSe32];unfold netSizes;rw[if_pos oM];simp only[hSe18];rfl
  have q38:S31.length=3:=S31_l
  replace hs:=(hs.tl.tl.add (K:=fun h_=>SlO 1 natc 0 h_ (some ⟨b27,0,none⟩) S31) q36)
  exact ⟨_,⟨some ⟨b27,0,none⟩,S31,3,h35,rfl,hs.to _ _,q37,q38⟩,ka.to [(4,.int .i64 kd),(10,.pointer (some ⟨b1,0,none⟩)),(11,.pointer (some ⟨b4,0,none⟩)),(12,.slice (some ⟨b27,0,none⟩) 3 3)] kR⟩
 rintro _ w39 ⟨Az,S,nS,h40,rfl,hs,hSS,hnS⟩
 have hSl:2≤S.length∧S.length≤3:=by have:=sizes_len i_ m_ o_;rw[←hSS] at this;omega
 have hSb:∀ i,S.getD i 0≤4:=fun i=>by rw[hSS];exact sizes_le i_ m_ o_ i
 refine cSL (lA 14 49 ([.slice none 0 0]) hs (fun b41 w42 h43 hs=>?_))
 refine lN (CG.seq (cSL (lL hs [.v 15 (.int .i64 1)] (lN (CG.block ?_)))))
 replace hs:=hs.nil 168 3
 refine cTo [(10,.pointer (some ⟨b1,0,none⟩)),(11,.pointer (some ⟨b4,0,none⟩)),(12,.slice Az nS nS),(14,.pointer (some ⟨b41,0,none⟩)),(15,.int .i64 1),(4,.int .i64 kd)] ?_
 replace hs:=hs.add (K:=fun h_=>RNetL h_ ([]) ([])) (RNetL.nil)
 refine CG.loop (fun μ_ Γ w_=>∃ (k:Nat) (sA:Option Addr) (sc:Nat) (us:List LV) (ls:List Lay) (at1:Nat) (h_:Hp),μ_=S.length-k∧Γ=[(10,.pointer (some ⟨b1,0,none⟩)),(11,.pointer (some ⟨b4,0,none⟩)),(12,.slice Az nS nS),(14,.pointer (some ⟨b41,0,none⟩)),(15,.int .i64 (k+1:Nat)),(4,.int .i64 (kindAt kd k))]∧SS w h w_ h_ [⟨b41,49,[.slice sA ((us).length) sc]⟩,⟨b4,172,[.slice A zs.length cap,.int .i64 (at1:Nat)]⟩,⟨b1,49,[.slice none 0 0]⟩] [⟨168,3,sA,sc,(us).length,(us).flatMap lvc⟩] [fun h_=>RNetL h_ us ls,fun h_=>SlO 1 natc 0 h_ Az S,fun h_=>SlO 1 natc 0 h_ (some ⟨b13,0,none⟩) S17,fun h_=>Seg h_ b13 0 ([.int .i64 ((pick (i_) 3)+1:Nat),.int .i64 ((pick (o_) 3)+1:Nat)]),fun h_=>SlO 1 i64c 0 h_ A zs]∧(k+1≤S.length)∧(ls.length=k)∧(at1≤zs.length)∧(∀ i,i<ls.length→LayMk (ls.getD i lay0) (pick (kindAt kd i) 3+1:Nat) (S.getD (i+1) 0) (S.getD i 0))) _ ⟨0,none,0,[],[],0,h43,rfl,rfl,hs.to _ _,by omega,rfl,Nat.zero_le _,fun i hi=>by simp at hi⟩ ?_
 rintro _ _ w44 ⟨k,sA,sc,us,ls,at1,h45,hm46,rfl,hs,hk,hkl,hat1,hMk⟩
 have hS0:=hSb k
 have hS1:=hSb (k+1)
 have hlu:=(hs.f.1).len
 obtain ⟨tk0,tk1⟩:=kindAt_bd hkd k
 refine CG.seq (cSL (lL hs [.m 42 15,.m 43 12,.v 44 (.int .i64 (nS:Nat))] ?_))
 cases hb47:(decide (((k+1:Nat):Int)<((nS:Nat):Int)))
 ·
  have phb47:=oF hb47
  refine lB 45 hb47 ?_
  refine lN (cIF (CG.exit ?_))
  show CG _ _ _ _ _ _ _ _
  refine cSL ?_
  obtain ⟨h48,hs,hc49⟩:=hs.pubr 0 (A:=sA) (c:=sc) (l:=us) (f:=lvc) (ty:=168) (sz:=3) lvd (fun _=>rfl)
  refine lL hs [.o 97 (.agg #[.slice sA ((us).length) sc]) 0 0 1] (lP 2 0 ([.slice sA ((us).length) sc]) hs (fun w51 hs=>?_))
  refine lN (CG.ret ?_)
  rw[hSS] at hMk
  exact hs.ret [(2,0,1)] (.agg #[.slice sA ((us).length) sc]) (⟨_,_,us,ls,rfl,hc49,(hs.f.1),(hs.f.2.1),by rw[←hSS];omega,hMk⟩)
 have phb47:=oT hb47
 refine lB 45 hb47 ?_
 refine lN (cIT (CG.skipN (CG.seq (CG.block (cSL (lL hs [.m 48 4] (lC 49 hs (hPick (kindAt kd k) 3 oM oM _ _ hs.g) ?_)))))))
 rintro _ w53 h54 hs rfl
 have lp52:=pick_lt (kindAt kd k) 3 oM
 refine lIn 50 ((pick (kindAt kd k) 3:Nat)+1) ((pick (kindAt kd k) 3)+1) ?_
 refine lL hs [.v 51 (.agg #[.int .i64 ((pick (kindAt kd k) 3)+1:Nat),.slice none 0 0,.slice none 0 0])] (lA 16 168 ([.int .i64 0,.slice none 0 0,.slice none 0 0]) hs (fun b55 w56 h57 hs=>?_))
 refine lP 0 0 ([.int .i64 ((pick (kindAt kd k) 3)+1:Nat),.slice none 0 0,.slice none 0 0]) hs (fun w58 hs=>?_)
 refine lNS (lL hs [.m 52 4] (lV 53 (.int .i64 ((kindAt kd k).tdiv 3)) ?_ (hr:=rint (n:=IntKind.wrap .i64 ((kindAt kd k).tdiv 3)) kR (fitI64 oM oM))))
 refine lL hs [.m 4 53] (lN (CG.seq (cSL (lL hs [.v 17 (.int .i64 0)] (lN (CG.block ?_))))))
 replace hs:=hs.nil 86 3
 replace hs:=hs.nil 27 1
 refine cTo [(10,.pointer (some ⟨b1,0,none⟩)),(11,.pointer (some ⟨b4,0,none⟩)),(12,.slice Az nS nS),(14,.pointer (some ⟨b41,0,none⟩)),(15,.int .i64 (k+1:Nat)),(4,.int .i64 ((kindAt kd k).tdiv 3)),(16,.pointer (some ⟨b55,0,none⟩)),(17,.int .i64 0)] ?_
 replace hs:=hs.add (K:=fun h_=>RTs h_ ([]) ([])) (RTs.nil)
 replace hs:=hs.add (K:=fun h_=>RVs h_ ([]) ([])) (RVs.nil)
 refine CG.loop (fun μ_ Γ w_=>∃ (j:Nat) (sWA:Option Addr) (sWc:Nat) (Wl:List (List Rat)) (vW:List Value) (sBA:Option Addr) (sBc:Nat) (Bl:List Rat) (tB:List RT) (at2:Nat) (h_:Hp),μ_=S.getD (k+1) 0-j∧Γ=[(10,.pointer (some ⟨b1,0,none⟩)),(11,.pointer (some ⟨b4,0,none⟩)),(12,.slice Az nS nS),(14,.pointer (some ⟨b41,0,none⟩)),(15,.int .i64 (k+1:Nat)),(4,.int .i64 ((kindAt kd k).tdiv 3)),(16,.pointer (some ⟨b55,0,none⟩)),(17,.int .i64 (j:Nat))]∧SS w h w_ h_ [⟨b55,168,[.int .i64 (pick (kindAt kd k) 3+1:Nat),.slice sWA ((vW).length) sWc,.slice sBA ((tB).length) sBc]⟩,⟨b41,49,[.slice sA ((us).length) sc]⟩,⟨b4,172,[.slice A zs.length cap,.int .i64 (at2:Nat)]⟩,⟨b1,49,[.slice none 0 0]⟩] [⟨27,1,sWA,sWc,(vW).length,(vW).flatMap vc⟩,⟨86,3,sBA,sBc,(tB).length,(tB).flatMap rqc⟩,⟨168,3,sA,sc,(us).length,(us).flatMap lvc⟩] [fun h_=>RVs h_ vW Wl,fun h_=>RTs h_ tB Bl,fun h_=>RNetL h_ us ls,fun h_=>SlO 1 natc 0 h_ Az S,fun h_=>SlO 1 natc 0 h_ (some ⟨b13,0,none⟩) S17,fun h_=>Seg h_ b13 0 ([.int .i64 ((pick (i_) 3)+1:Nat),.int .i64 ((pick (o_) 3)+1:Nat)]),fun h_=>SlO 1 i64c 0 h_ A zs]∧(j≤S.getD (k+1) 0)∧(Wl.length=j)∧(Bl.length=j)∧(at2≤zs.length)∧(∀ r∈Wl,r.length=S.getD k 0∧Smalls r)∧(Smalls Bl)) _ ⟨0,none,0,[],[],none,0,[],[],at1,h57,rfl,rfl,hs.to _ _,Nat.zero_le _,rfl,rfl,hat1,fun r hr=>by simp at hr,fun r hr=>by simp at hr⟩ ?_
 rintro _ _ w59 ⟨j,sWA,sWc,Wl,vW,sBA,sBc,Bl,tB,at2,h60,hm61,rfl,hs,hj,hWl,hBl,hat2,hWs,hBs⟩
 have hlv:=(hs.f.1).len
 have hlt:=(hs.f.2.1).len
 refine CG.seq (cSL (lL hs [.m 54 17,.m 55 12,.m 56 15] (lX 57 Az nS nS 1 (k+1:Nat) (k+1) ((hs.f.2.2.2.1).ok oM) ?_)))
 refine lH 58 (.int .i64 (S.getD (k+1) 0:Nat)) hs ((hs.f.2.2.2.1).el (k+1) oM) ?_
 cases hb62:(decide (((j:Nat):Int)<((S.getD (k+1) 0:Nat):Int)))
 ·
  have phb62:=oF hb62
  refine lB 59 hb62 ?_
  refine lN (cIF (CG.exit ?_))
  show CG _ _ _ _ _ _ _ _
  refine CG.listed ?_
  obtain ⟨h63,hs,hc64⟩:=hs.pubr 0 (A:=sWA) (c:=sWc) (l:=vW) (f:=vc) (ty:=27) (sz:=1) undef (fun _=>rfl)
  obtain ⟨h66,hs,hc67⟩:=hs.pubr 0 (A:=sBA) (c:=sBc) (l:=tB) (f:=rqc) (ty:=86) (sz:=3) rqd (fun _=>rfl)
  refine lL hs [.v 91 (.pointer (some ⟨b41,0,none⟩)),.o 92 (.slice sA ((us).length) sc) 1 0 1,.o 93 (.agg #[.int .i64 (pick (kindAt kd k) 3+1:Nat),.slice sWA ((vW).length) sWc,.slice sBA ((tB).length) sBc]) 0 0 3] (lR 94 168 1 ([.int .i64 (pick (kindAt kd k) 3+1:Nat),.slice sWA ((vW).length) sWc,.slice sBA ((tB).length) sBc]) hs (fun b69 w70 h71 hs=>?_))
  refine lY 95 0 168 3 sc sA us lvc (((pick (kindAt kd k) 3+1:Nat),.slice sWA ((vW).length) sWc,.slice sBA ((tB).length) sBc):LV) 56 b69 (.agg #[.int .i64 0,.slice none 0 0,.slice none 0 0]) hs (hs.f.1) (fun A73 c74 w75 h76 hs=>?_)
  refine lL hs [.v 96 (.pointer (some ⟨b41,0,none⟩))] (lP 1 0 ([.slice A73 ((us++[(((pick (kindAt kd k) 3+1:Nat),.slice sWA ((vW).length) sWc,.slice sBA ((tB).length) sBc):LV)]).length) c74]) hs (fun w78 hs=>?_))
  refine lN (CG.listed (lL hs [.m 46 15] (lIn 47 ((k+1:Nat)+1) ((k+1)+1) ?_)))
  refine lL hs [.m 15 47] (lD ?_)
  intro a_ ka
  have q79:RNetL h76 (us++[(((pick (kindAt kd k) 3+1:Nat),.slice sWA ((vW).length) sWc,.slice sBA ((tB).length) sBc):LV)]) (ls++[(⟨(pick (kindAt kd k) 3+1:Nat),Wl,Bl⟩:Lay)]):=((hs.f.2.2.2.2.2.1).snoc ⟨rfl,⟨_,_,vW,rfl,hc64,(hs.f.2.2.1),(hs.f.2.2.2.1)⟩,⟨_,_,tB,rfl,hc67,(hs.f.2.1),(hs.f.2.2.2.2.1)⟩⟩)
  have q80:(k+1)+1≤S.length:=by omega
  have q81:(ls++[(⟨(pick (kindAt kd k) 3+1:Nat),Wl,Bl⟩:Lay)]).length=(k+1):=by simp;omega
  have q82:at2≤zs.length:=hat2
  have q83:∀ i,i<(ls++[(⟨(pick (kindAt kd k) 3+1:Nat),Wl,Bl⟩:Lay)]).length→LayMk ((ls++[(⟨(pick (kindAt kd k) 3+1:Nat),Wl,Bl⟩:Lay)]).getD i lay0) (pick (kindAt kd i) 3+1:Nat) (S.getD (i+1) 0) (S.getD i 0):=(mk_snoc hMk (by rw[hkl];exact ⟨rfl,by show Wl.length=_;omega,hWs,by show Bl.length=_;omega,hBs⟩))
  replace hs:=(hs.tl.tl.tl.tl.tl.tl.add (K:=fun h_=>RNetL h_ (us++[(((pick (kindAt kd k) 3+1:Nat),.slice sWA ((vW).length) sWc,.slice sBA ((tB).length) sBc):LV)]) (ls++[(⟨(pick (kindAt kd k) 3+1:Nat),Wl,Bl⟩:Lay)])) q79)
  replace hs:=hs.drop 1 0
  refine ⟨_,_,?_,⟨k+1,A73,c74,us++[(((pick (kindAt kd k) 3+1:Nat),.slice sWA ((vW).length) sWc,.slice sBA ((tB).length) sBc):LV)],ls++[(⟨(pick (kindAt kd k) 3+1:Nat),Wl,Bl⟩:Lay)],at2,h76,rfl,rfl,hs.to _ _,q80,q81,q82,q83⟩,ka.to [(10,.pointer (some ⟨b1,0,none⟩)),(11,.pointer (some ⟨b4,0,none⟩)),(12,.slice Az nS nS),(14,.pointer (some ⟨b41,0,none⟩)),(15,.int .i64 ((k+1)+1:Nat)),(4,.int .i64 (kindAt kd (k+1)))] kR⟩
  omega
 have phb62:=oT hb62
 refine lB 59 hb62 ?_
 refine lN (cIT (CG.skipN (CG.seq (CG.block (cSL (lL hs [.v 18 (.slice none 0 0)] (lN (CG.seq (cSL (lL hs [.v 19 (.int .i64 0)] (lN (CG.block ?_))))))))))))
 replace hs:=hs.nil 86 3
 refine cTo [(10,.pointer (some ⟨b1,0,none⟩)),(11,.pointer (some ⟨b4,0,none⟩)),(12,.slice Az nS nS),(14,.pointer (some ⟨b41,0,none⟩)),(15,.int .i64 (k+1:Nat)),(4,.int .i64 ((kindAt kd k).tdiv 3)),(16,.pointer (some ⟨b55,0,none⟩)),(17,.int .i64 (j:Nat)),(19,.int .i64 0),(18,.slice none 0 0)] ?_
 replace hs:=hs.add (K:=fun h_=>RTs h_ ([]) ([])) (RTs.nil)
 refine CG.loop (fun μ_ Γ w_=>∃ (c:Nat) (srA:Option Addr) (src:Nat) (tr:List RT) (qr:List Rat) (at3:Nat) (h_:Hp),μ_=S.getD k 0-c∧Γ=[(10,.pointer (some ⟨b1,0,none⟩)),(11,.pointer (some ⟨b4,0,none⟩)),(12,.slice Az nS nS),(14,.pointer (some ⟨b41,0,none⟩)),(15,.int .i64 (k+1:Nat)),(4,.int .i64 ((kindAt kd k).tdiv 3)),(16,.pointer (some ⟨b55,0,none⟩)),(17,.int .i64 (j:Nat)),(19,.int .i64 (c:Nat)),(18,.slice srA ((tr).length) src)]∧SS w h w_ h_ [⟨b55,168,[.int .i64 (pick (kindAt kd k) 3+1:Nat),.slice sWA ((vW).length) sWc,.slice sBA ((tB).length) sBc]⟩,⟨b41,49,[.slice sA ((us).length) sc]⟩,⟨b4,172,[.slice A zs.length cap,.int .i64 (at3:Nat)]⟩,⟨b1,49,[.slice none 0 0]⟩] [⟨86,3,srA,src,(tr).length,(tr).flatMap rqc⟩,⟨27,1,sWA,sWc,(vW).length,(vW).flatMap vc⟩,⟨86,3,sBA,sBc,(tB).length,(tB).flatMap rqc⟩,⟨168,3,sA,sc,(us).length,(us).flatMap lvc⟩] [fun h_=>RTs h_ tr qr,fun h_=>RVs h_ vW Wl,fun h_=>RTs h_ tB Bl,fun h_=>RNetL h_ us ls,fun h_=>SlO 1 natc 0 h_ Az S,fun h_=>SlO 1 natc 0 h_ (some ⟨b13,0,none⟩) S17,fun h_=>Seg h_ b13 0 ([.int .i64 ((pick (i_) 3)+1:Nat),.int .i64 ((pick (o_) 3)+1:Nat)]),fun h_=>SlO 1 i64c 0 h_ A zs]∧(c≤S.getD k 0)∧(qr.length=c)∧(at3≤zs.length)∧(Smalls qr)) _ ⟨0,none,0,[],[],at2,h60,rfl,rfl,hs.to _ _,Nat.zero_le _,rfl,hat2,fun r hr=>by simp at hr⟩ ?_
 rintro _ _ w84 ⟨c,srA,src,tr,qr,at3,h85,hm86,rfl,hs,hc,hqr,hat3,hQs⟩
 have hltr:=(hs.f.1).len
 refine CG.seq (cSL (lL hs [.m 62 19,.m 63 12,.m 64 15] (lV 65 (.int .i64 (k:Nat)) ?_ (hr:=rint (ri64 (n:=((k+1:Nat):Int)-1) kR oM oM) oM))))
 refine lX 66 Az nS nS 1 (k:Nat) k ((hs.f.2.2.2.2.1).ok oM) ?_
 refine lH 67 (.int .i64 (S.getD k 0:Nat)) hs ((hs.f.2.2.2.2.1).el k oM) ?_
 cases hb87:(decide (((c:Nat):Int)<((S.getD k 0:Nat):Int)))
 ·
  have phb87:=oF hb87
  refine lB 68 hb87 ?_
  refine lN (cIF (CG.exit ?_))
  show CG _ _ _ _ _ _ _ _
  refine cSL (lL hs [.v 77 (.pointer (some ⟨b55,1,none⟩)),.o 78 (.slice sWA ((vW).length) sWc) 0 1 1] ?_)
  obtain ⟨h88,hs,hc89⟩:=hs.pubr 0 (A:=srA) (c:=src) (l:=tr) (f:=rqc) (ty:=86) (sz:=3) rqd (fun _=>rfl)
  refine lL hs [.m 79 18] (lR 80 27 1 ([.slice srA ((tr).length) src]) hs (fun b91 w92 h93 hs=>?_))
  refine lY 81 0 27 1 sWc sWA vW vc (.slice srA ((tr).length) src:Value) 24 b91 (.slice none 0 0) hs (hs.f.1) (fun A95 c96 w97 h98 hs=>?_)
  refine lL hs [.v 82 (.pointer (some ⟨b55,1,none⟩))] (lP 0 1 ([.slice A95 ((vW++[(.slice srA ((tr).length) src:Value)]).length) c96]) hs (fun w100 hs=>?_))
  refine lN (CG.region ⟨(b4::(Value.slice sBA ((tB).length) sBc).ownBlock.toList),none⟩ 7 [] mixed kR hs.g al_nil (hs.rb_lt 2 1 (rb:=b4) (ty:=86) (sz:=3) (A:=sBA) (c:=sBc) (m:=(tB).length) (cs:=(tB).flatMap rqc)) ?_)
  refine eV 0 83 (.pointer (some ⟨b55,2,none⟩)) ?_
  refine eO 1 84 [(0,2,1)] (.slice sBA ((tB).length) sBc) hs ?_ (hM:=fun p hp=>by obtain rfl:=List.mem_singleton.1 hp;exact hs.rb_ne 0 2 1 (rb:=b4) (ty:=86) (sz:=3) (A:=sBA) (c:=sBc) (m:=(tB).length) (cs:=(tB).flatMap rqc))
  refine eV 2 85 (.pointer (some ⟨b4,0,none⟩)) ?_
  refine eCm 3 86 hs (List.mem_cons_self) (fun _ _ hs=>rNext A cap zs hl hz b4 at3 oM _ _ hs.g (hs.own 2) (hs.jk 2) (hs.f.2.2.2.2.2.2.2.2.2.1)) ?_
  rintro _ _ _ w102 h103 hs u104 ⟨z101,at_z101,rfl,haz101,hzz101,hOz101⟩
  replace hs:=(hs.stepM 2 u104 hOz101).to [⟨b55,168,[.int .i64 (pick (kindAt kd k) 3+1:Nat),.slice A95 ((vW++[(.slice srA ((tr).length) src:Value)]).length) c96,.slice sBA ((tB).length) sBc]⟩,⟨b41,49,[.slice sA ((us).length) sc]⟩,⟨b4,172,[.slice A zs.length cap,.int .i64 (at_z101:Nat)]⟩,⟨b1,49,[.slice none 0 0]⟩] [⟨27,1,A95,c96,(vW++[(.slice srA ((tr).length) src:Value)]).length,(vW++[(.slice srA ((tr).length) src:Value)]).flatMap vc⟩,⟨86,3,sBA,sBc,(tB).length,(tB).flatMap rqc⟩,⟨168,3,sA,sc,(us).length,(us).flatMap lvc⟩]
  refine eC 4 87 hs (fun _ _ hs=>mSmall z101 hzz101.1 hzz101.2 _ _ hs.g) ?_
  rintro _ _ _ w113 h114 hs ⟨A105,c106,A109,c110,rfl,hc107,hc111,hA108,hA112⟩
  replace hs:=((hs.a_SlO hA108).a_SlO hA112)
  refine eR 5 88 86 1 ([.bool (ineg (smallq z101).num),.slice A105 ((lim (iabs (smallq z101).num)).length) c106,.slice A109 ((lim (smallq z101).den).length) c110]) hs (fun b115 w116 h117 hs=>?_)
  refine eY 6 89 1 86 3 sBc sBA tB rqc ((ineg (smallq z101).num,.slice A105 ((lim (iabs (smallq z101).num)).length) c106,.slice A109 ((lim (smallq z101).den).length) c110):RT) 56 b115 (.agg #[.bool false,.slice none 0 0,.slice none 0 0]) hs (fun _ f_=>f_.1) (fun b hb=>List.mem_cons_of_mem _ (Option.mem_toList.2 hb)) (fun A119 c120 w121 h122 hs=>?_)
  refine eD0 hs (fun w124 h125 hs=>?_)
  refine tV 7 90 (.pointer (some ⟨b55,2,none⟩)) ?_
  refine tP 8 0 2 ([.slice A119 ((tB++[((ineg (smallq z101).num,.slice A105 ((lim (iabs (smallq z101).num)).length) c106,.slice A109 ((lim (smallq z101).den).length) c110):RT)]).length) c120]) hs (fun w126 hs=>?_)
  refine tN (CG.listed (lL hs [.m 60 17] (lIn 61 ((j:Nat)+1) (j+1) ?_)))
  refine lL hs [.m 17 61] (lD ?_)
  intro a_ ka
  have q127:RVs h125 (vW++[(.slice srA ((tr).length) src:Value)]) (Wl++[qr]):=(RVs.snoc (hs.f.2.2.2.2.2.2.1) ⟨_,_,tr,rfl,hc89,(hs.f.2.2.2.2.1),(hs.f.2.2.2.2.2.1)⟩)
  have q128:RTs h125 (tB++[((ineg (smallq z101).num,.slice A105 ((lim (iabs (smallq z101).num)).length) c106,.slice A109 ((lim (smallq z101).den).length) c110):RT)]) (Bl++[smallq z101]):=(RTs.snoc (hs.f.2.2.2.2.2.2.2.1) ⟨_,_,_,_,rfl,hc107,hc111,(hs.f.2.2.1),(hs.f.2.1)⟩)
  have q129:(j+1)≤S.getD (k+1) 0:=by omega
  have q130:(Wl++[qr]).length=(j+1):=by simp;omega
  have q131:(Bl++[smallq z101]).length=(j+1):=by simp;omega
  have q132:at_z101≤zs.length:=haz101
  have q133:∀ r∈(Wl++[qr]),r.length=S.getD k 0∧Smalls r:=(rows_snoc hWs oM hQs)
  have q134:Smalls (Bl++[smallq z101]):=(Smalls.snoc hBs _)
  replace hs:=((hs.tl.tl.tl.tl.tl.tl.tl.tl.add (K:=fun h_=>RTs h_ (tB++[((ineg (smallq z101).num,.slice A105 ((lim (iabs (smallq z101).num)).length) c106,.slice A109 ((lim (smallq z101).den).length) c110):RT)]) (Bl++[smallq z101])) q128).add (K:=fun h_=>RVs h_ (vW++[(.slice srA ((tr).length) src:Value)]) (Wl++[qr])) q127)
  refine ⟨_,_,?_,⟨j+1,A95,c96,Wl++[qr],vW++[(.slice srA ((tr).length) src:Value)],A119,c120,Bl++[smallq z101],tB++[((ineg (smallq z101).num,.slice A105 ((lim (iabs (smallq z101).num)).length) c106,.slice A109 ((lim (smallq z101).den).length) c110):RT)],at_z101,h125,rfl,rfl,hs.to _ _,q129,q130,q131,q132,q133,q134⟩,ka.to [(10,.pointer (some ⟨b1,0,none⟩)),(11,.pointer (some ⟨b4,0,none⟩)),(12,.slice Az nS nS),(14,.pointer (some ⟨b41,0,none⟩)),(15,.int .i64 (k+1:Nat)),(4,.int .i64 ((kindAt kd k).tdiv 3)),(16,.pointer (some ⟨b55,0,none⟩)),(17,.int .i64 ((j+1):Nat))] kR⟩
  omega
 have phb87:=oT hb87
 refine lB 68 hb87 ?_
 refine lN (cIT (CG.skipN (CG.seq (CG.block (CG.listed (lL hs [.m 71 18,.m 72 11] (lCm 73 (rNext A cap zs hl hz b4 at3 oM _ _ hs.g (hs.own 2) (hs.jk 2) (hs.f.2.2.2.2.2.2.2.1)) ?_)))))))
 rintro _ w136 h137 u138 ⟨z135,at_z135,rfl,haz135,hzz135,hOz135⟩
 replace hs:=(hs.stepM 2 u138 hOz135).to [⟨b55,168,[.int .i64 (pick (kindAt kd k) 3+1:Nat),.slice sWA ((vW).length) sWc,.slice sBA ((tB).length) sBc]⟩,⟨b41,49,[.slice sA ((us).length) sc]⟩,⟨b4,172,[.slice A zs.length cap,.int .i64 (at_z135:Nat)]⟩,⟨b1,49,[.slice none 0 0]⟩] [⟨86,3,srA,src,(tr).length,(tr).flatMap rqc⟩,⟨27,1,sWA,sWc,(vW).length,(vW).flatMap vc⟩,⟨86,3,sBA,sBc,(tB).length,(tB).flatMap rqc⟩,⟨168,3,sA,sc,(us).length,(us).flatMap lvc⟩]
 refine lC 74 hs (mSmall z135 hzz135.1 hzz135.2 _ _ hs.g) ?_
 rintro _ w147 h148 hs ⟨A139,c140,A143,c144,rfl,hc141,hc145,hA142,hA146⟩
 replace hs:=((hs.a_SlO hA142).a_SlO hA146)
 refine lR 75 86 1 ([.bool (ineg (smallq z135).num),.slice A139 ((lim (iabs (smallq z135).num)).length) c140,.slice A143 ((lim (smallq z135).den).length) c144]) hs (fun b149 w150 h151 hs=>?_)
 refine lY 76 0 86 3 src srA tr rqc ((ineg (smallq z135).num,.slice A139 ((lim (iabs (smallq z135).num)).length) c140,.slice A143 ((lim (smallq z135).den).length) c144):RT) 56 b149 (.agg #[.bool false,.slice none 0 0,.slice none 0 0]) hs (hs.f.1) (fun A153 c154 w155 h156 hs=>?_)
 refine lL hs [.m 18 76] (lN (CG.listed (lL hs [.m 69 19] (lIn 70 ((c:Nat)+1) (c+1) ?_))))
 refine lL hs [.m 19 70] (lD ?_)
 intro a_ ka
 have q158:RTs h156 (tr++[((ineg (smallq z135).num,.slice A139 ((lim (iabs (smallq z135).num)).length) c140,.slice A143 ((lim (smallq z135).den).length) c144):RT)]) (qr++[smallq z135]):=(RTs.snoc (hs.f.2.2.2.1) ⟨_,_,_,_,rfl,hc141,hc145,(hs.f.2.2.1),(hs.f.2.1)⟩)
 have q159:(c+1)≤S.getD k 0:=by omega
 have q160:(qr++[smallq z135]).length=(c+1):=by simp;omega
 have q161:at_z135≤zs.length:=haz135
 have q162:Smalls (qr++[smallq z135]):=(Smalls.snoc hQs _)
 replace hs:=(hs.tl.tl.tl.tl.add (K:=fun h_=>RTs h_ (tr++[((ineg (smallq z135).num,.slice A139 ((lim (iabs (smallq z135).num)).length) c140,.slice A143 ((lim (smallq z135).den).length) c144):RT)]) (qr++[smallq z135])) q158)
 refine ⟨_,_,?_,⟨c+1,A153,c154,tr++[((ineg (smallq z135).num,.slice A139 ((lim (iabs (smallq z135).num)).length) c140,.slice A143 ((lim (smallq z135).den).length) c144):RT)],qr++[smallq z135],at_z135,h156,rfl,rfl,hs.to _ _,q159,q160,q161,q162⟩,ka.to [(10,.pointer (some ⟨b1,0,none⟩)),(11,.pointer (some ⟨b4,0,none⟩)),(12,.slice Az nS nS),(14,.pointer (some ⟨b41,0,none⟩)),(15,.int .i64 (k+1:Nat)),(4,.int .i64 ((kindAt kd k).tdiv 3)),(16,.pointer (some ⟨b55,0,none⟩)),(17,.int .i64 (j:Nat)),(19,.int .i64 ((c+1):Nat)),(18,.slice A153 (((tr++[((ineg (smallq z135).num,.slice A139 ((lim (iabs (smallq z135).num)).length) c140,.slice A143 ((lim (smallq z135).den).length) c144):RT)])).length) c154)] kR⟩
 omega
structure LayFit (L:Lay):Prop where
  rl:L.W.length≤1000000
  rls:∀ i,i<L.W.length→(L.W.getD i []).length≤1000000
  rf:∀ i,i<L.W.length→∀ j,j<(L.W.getD i []).length→LQ 100000000 ((L.W.getD i []).getD j 0)
  bl:L.B.length≤1000000
  bf:∀ i,i<L.B.length→LQ 100000000 (L.B.getD i 0)
theorem mInNet (A:Option Addr)(cap:Nat)(ts:List LV)(ls:List Lay)(hn:ls.length≤1000000)(hF:∀ i,i<ls.length→LayFit (ls.getD i lay0))(w:World)(h:Hp)(g:G w h)(hA:SlO 3 lvc lvd h A ts)(hN:RNetL h ts ls)(tb:Tab h) :
    Calls Tryz.prog 27 #[.agg #[.slice A ts.length cap]] w (Ret w h fun v h1=>∃ A c,∃ us:List LV,v=.agg #[.slice A us.length c]∧us.length≤c∧SlO 3 lvc lvd h1 A us∧NetL h1 us ls):=by
 have hs:=SS.start g
 replace hs:=(((hs.a_SlO hA).add (K:=fun h_=>RNetL h_ ts ls) hN).add (K:=fun h_=>Tab h_) tb)
 have hl:=(hs.f.2.1).len
 refine go Tryz.func27 [(0,.agg #[.slice A ts.length cap])] rfl ?_
 refine cSL (lA 1 49 ([.slice A ts.length cap]) hs (fun b1 w2 h3 hs=>?_))
 refine lA 2 57 ([.slice none 0 0]) hs (fun b4 w5 h6 hs=>?_)
 refine lNS (lA 3 57 ([.slice none 0 0]) hs (fun b7 w8 h9 hs=>?_))
 refine lN (CG.seq (cSL (lL hs [.v 4 (.int .i64 0)] (lN (CG.block ?_)))))
 replace hs:=hs.nil 114 3
 refine cTo [(1,.pointer (some ⟨b1,0,none⟩)),(2,.pointer (some ⟨b4,0,none⟩)),(3,.pointer (some ⟨b7,0,none⟩)),(4,.int .i64 0)] ?_
 replace hs:=hs.add (K:=fun h_=>NetL h_ ([]) (ls.take 0)) (NetL.nil)
 refine CG.loop (fun μ_ Γ w_=>∃ (k:Nat) (sA:Option Addr) (sc:Nat) (us:List LV) (h_:Hp),μ_=ls.length-k∧Γ=[(1,.pointer (some ⟨b1,0,none⟩)),(2,.pointer (some ⟨b4,0,none⟩)),(3,.pointer (some ⟨b7,0,none⟩)),(4,.int .i64 (k:Nat))]∧SS w h w_ h_ [⟨b7,57,[.slice sA ((us).length) sc]⟩,⟨b4,57,[.slice none 0 0]⟩,⟨b1,49,[.slice A ts.length cap]⟩] [⟨114,3,sA,sc,(us).length,(us).flatMap lvc⟩] [fun h_=>NetL h_ us (ls.take k),fun h_=>Tab h_,fun h_=>RNetL h_ ts ls,fun h_=>SlO 3 lvc lvd h_ A ts]∧(k≤ls.length)) _ ⟨0,none,0,[],h9,rfl,rfl,hs.to _ _,Nat.zero_le _⟩ ?_
 rintro _ _ w10 ⟨k,sA,sc,us,h11,hm12,rfl,hs,hk⟩
 have hlU:=(hs.f.1).len
 have htk:(ls.take k).length=k:=by simp;omega
 refine CG.seq (cSL (lL hs [.m 6 4,.v 7 (.pointer (some ⟨b1,0,none⟩)),.o 8 (.slice A ts.length cap) 2 0 1,.v 9 (.int .i64 (ts.length:Nat))] ?_))
 cases hb13:(decide (((k:Nat):Int)<((ts.length:Nat):Int)))
 ·
  have phb13:=oF hb13
  refine lB 10 hb13 ?_
  refine lN (cIF (CG.exit ?_))
  show CG _ _ _ _ _ _ _ _
  refine cSL ?_
  obtain ⟨h14,hs,hc15⟩:=hs.pubr 0 (A:=sA) (c:=sc) (l:=us) (f:=lvc) (ty:=114) (sz:=3) lvd (fun _=>rfl)
  refine lL hs [.o 32 (.agg #[.slice sA ((us).length) sc]) 0 0 1] (lP 1 0 ([.slice sA ((us).length) sc]) hs (fun w17 hs=>?_))
  refine lN (CG.ret ?_)
  have hkq:ls.take k=ls:=List.take_of_length_le oM
  rw[hkq] at hs
  exact hs.ret [(1,0,1)] (.agg #[.slice sA ((us).length) sc]) (⟨_,_,us,rfl,hc15,(hs.f.1),(hs.f.2.1)⟩)
 have phb13:=oT hb13
 refine lB 10 hb13 ?_
 refine lN (cIT (CG.skipN (CG.seq (CG.block (cSL (lL hs [.v 13 (.pointer (some ⟨b1,0,none⟩)),.o 14 (.slice A ts.length cap) 2 0 1,.m 15 4] (lX 16 A ts.length cap 3 (k:Nat) k ((hs.f.2.2.2.1).ok oM) ?_)))))))
 obtain ⟨ekx,⟨AWx,cWx,usx,eWx,hcWx,hAWx,hTWx⟩,⟨ABx,cBx,rsx,eBx,hcBx,hABx,hTBx⟩⟩:=(hs.f.2.2.1).at_ k oM
 replace hs:=((((hs.a_SlO hAWx).add (K:=fun h_=>RVs h_ usx (ls.getD k lay0).W) hTWx).a_SlO hABx).add (K:=fun h_=>RTs h_ rsx (ls.getD k lay0).B) hTBx)
 refine lHe 17 (.agg #[.int .i64 ((ts.getD k lvd).1),(ts.getD k lvd).2.1,(ts.getD k lvd).2.2]) hs ((hs.f.2.2.2.2.2.2.2.1).el k oM) (by rw[ekx,eWx,eBx]) ?_
 refine lA 5 168 ([.int .i64 0,.slice none 0 0,.slice none 0 0]) hs (fun b18 w19 h20 hs=>?_)
 refine lP 0 0 ([.int .i64 ((ls.getD k lay0).k),.slice AWx usx.length cWx,.slice ABx rsx.length cBx]) hs (fun w21 hs=>?_)
 refine lN (CG.region ⟨(b4::(Value.slice sA ((us).length) sc).ownBlock.toList),none⟩ 13 [] mixed kR hs.g al_nil (hs.rb_lt 2 0 (rb:=b4) (ty:=114) (sz:=3) (A:=sA) (c:=sc) (m:=(us).length) (cs:=(us).flatMap lvc)) ?_)
 refine eV 0 18 (.pointer (some ⟨b7,0,none⟩)) ?_
 refine eO 1 19 [(1,0,1)] (.slice sA ((us).length) sc) hs ?_ (hM:=fun p hp=>by obtain rfl:=List.mem_singleton.1 hp;exact hs.rb_ne 1 2 0 (rb:=b4) (ty:=114) (sz:=3) (A:=sA) (c:=sc) (m:=(us).length) (cs:=(us).flatMap lvc))
 refine eV 2 20 (.pointer (some ⟨b18,0,none⟩)) ?_
 refine eO 3 21 [(0,0,1)] (.int .i64 ((ls.getD k lay0).k)) hs ?_ (hM:=fun p hp=>by obtain rfl:=List.mem_singleton.1 hp;exact hs.rb_ne 0 2 0 (rb:=b4) (ty:=114) (sz:=3) (A:=sA) (c:=sc) (m:=(us).length) (cs:=(us).flatMap lvc))
 refine eV 4 22 (.pointer (some ⟨b18,1,none⟩)) ?_
 refine eO 5 23 [(0,1,1)] (.slice AWx usx.length cWx) hs ?_ (hM:=fun p hp=>by obtain rfl:=List.mem_singleton.1 hp;exact hs.rb_ne 0 2 0 (rb:=b4) (ty:=114) (sz:=3) (A:=sA) (c:=sc) (m:=(us).length) (cs:=(us).flatMap lvc))
 refine eV 7 25 (.pointer (some ⟨b18,2,none⟩)) ?_
 refine eO 8 26 [(0,2,1)] (.slice ABx rsx.length cBx) hs ?_ (hM:=fun p hp=>by obtain rfl:=List.mem_singleton.1 hp;exact hs.rb_ne 0 2 0 (rb:=b4) (ty:=114) (sz:=3) (A:=sA) (c:=sc) (m:=(us).length) (cs:=(us).flatMap lvc))
 refine eC 6 24 hs (fun _ _ hs=>hInRows AWx cWx usx (ls.getD k lay0).W ((hF k oM).rl) ((hF k oM).rls) ((hF k oM).rf) _ _ hs.g (hs.f.2.2.2.1) (hs.f.2.2.1) (hs.f.2.2.2.2.2.1)) ?_
 rintro _ _ _ w22 h23 hs ⟨Au,cu,uu,rfl,hcu,hAu,hQu⟩
 replace hs:=((hs.a_SlO hAu).add (K:=fun h_=>QVs h_ uu (ls.getD k lay0).W) hQu)
 refine eC 9 27 hs (fun _ _ hs=>hInRow ABx cBx rsx (ls.getD k lay0).B (hF k oM).bl (hF k oM).bf _ _ hs.g (hs.f.2.2.2.1) (hs.f.2.2.1) (hs.f.2.2.2.2.2.2.2.1)) ?_
 rintro _ _ _ w24 h25 hs ⟨Ab,cb,rfl,hcb,hAb⟩
 replace hs:=(hs.a_SlO hAb)
 refine eV 10 28 (.agg #[.int .i64 ((ls.getD k lay0).k),.slice Au uu.length cu,.slice Ab ((ls.getD k lay0).B.length) cb]) ?_
 refine eR 11 29 114 1 ([.int .i64 ((ls.getD k lay0).k),.slice Au uu.length cu,.slice Ab ((ls.getD k lay0).B.length) cb]) hs (fun b26 w27 h28 hs=>?_)
 refine eY 12 30 0 114 3 sc sA us lvc (((ls.getD k lay0).k,.slice Au uu.length cu,.slice Ab ((ls.getD k lay0).B.length) cb):LV) 56 b26 (.agg #[.int .i64 0,.slice none 0 0,.slice none 0 0]) hs (fun _ f_=>f_.1) (fun b hb=>List.mem_cons_of_mem _ (Option.mem_toList.2 hb)) (fun A30 c31 w32 h33 hs=>?_)
 refine eD0 hs (fun w35 h36 hs=>?_)
 refine tV 13 31 (.pointer (some ⟨b7,0,none⟩)) ?_
 refine tP 14 1 0 ([.slice A30 ((us++[(((ls.getD k lay0).k,.slice Au uu.length cu,.slice Ab ((ls.getD k lay0).B.length) cb):LV)]).length) c31]) hs (fun w37 hs=>?_)
 refine tN (CG.listed (lL hs [.m 11 4] (lIn 12 ((k:Nat)+1) (k+1) ?_)))
 refine lL hs [.m 4 12] (lD ?_)
 intro a_ ka
 have q38:NetL h36 (us++[(((ls.getD k lay0).k,.slice Au uu.length cu,.slice Ab ((ls.getD k lay0).B.length) cb):LV)]) (ls.take (k+1)):=(by rw[take_snoc' lay0 oM];exact (hs.f.2.2.2.2.2.2.2.2.1).snoc ⟨rfl,⟨Au,cu,uu,rfl,hcu,(hs.f.2.2.2.1),(hs.f.2.2.1)⟩,⟨Ab,cb,rfl,hcb,(hs.f.2.1)⟩⟩)
 have q39:(k+1)≤ls.length:=by omega
 replace hs:=(hs.tl.tl.tl.tl.tl.tl.tl.tl.tl.add (K:=fun h_=>NetL h_ (us++[(((ls.getD k lay0).k,.slice Au uu.length cu,.slice Ab ((ls.getD k lay0).B.length) cb):LV)]) (ls.take (k+1))) q38)
 replace hs:=hs.drop 1 0
 refine ⟨_,_,?_,⟨k+1,A30,c31,us++[(((ls.getD k lay0).k,.slice Au uu.length cu,.slice Ab ((ls.getD k lay0).B.length) cb):LV)],h36,rfl,rfl,hs.to _ _,q39⟩,ka.to [(1,.pointer (some ⟨b1,0,none⟩)),(2,.pointer (some ⟨b4,0,none⟩)),(3,.pointer (some ⟨b7,0,none⟩)),(4,.int .i64 ((k+1):Nat))] kR⟩
 omega
def RightP (W:List (List Rat)):Prop:=0<W.length∧0<(W.getD 0 []).length∧∀ i,i<W.length→(W.getD i []).length=(W.getD 0 []).length
noncomputable def rightq (W:List (List Rat)):Bool:=@decide (RightP W) (Classical.propDecidable _)
theorem right_step {W:List (List Rat)}{k:Nat}(hR:∀ i,i<k→(W.getD i []).length=(W.getD 0 []).length)(h:(W.getD k []).length=(W.getD 0 []).length):∀ i,i<k+1→(W.getD i []).length=(W.getD 0 []).length:=fun i hi=>by
  by_cases e:i=k
  · rw[e];exact h
  · exact hR i oM
theorem rq_t {W:List (List Rat)}(h:RightP W):Value.bool true=.bool (rightq W):=by unfold rightq;rw[@decide_eq_true _ (Classical.propDecidable _) h]
theorem rq_f {W:List (List Rat)}(h:¬RightP W):Value.bool false=.bool (rightq W):=by unfold rightq;rw[@decide_eq_false _ (Classical.propDecidable _) h]
theorem rq_is {W:List (List Rat)}(h:rightq W=true):RightP W:=by unfold rightq at h;exact @oT _ (Classical.propDecidable _) h
theorem rq_not {W:List (List Rat)}(h:rightq W=false):¬RightP W:=by unfold rightq at h;exact @oF _ (Classical.propDecidable _) h
theorem mRightG (A:Option Addr)(cap:Nat)(us:List Value)(W:List (List Rat))(hl:W.length≤1000000)(hls:∀ i,i<W.length→(W.getD i []).length≤1000000)(w:World)(h:Hp)(g:G w h)(hA:SlO 1 vc undef h A us)(hU:QVs h us W) :
    Calls Tryz.prog 150 #[.slice A us.length cap] w (Ret w h fun v _=>v=.bool (rightq W)):=by
 have hs:=SS.start g
 replace hs:=((hs.a_SlO hA).add (K:=fun h_=>QVs h_ us W) hU)
 have hlu:=(hs.f.1).len
 refine go Tryz.func150 [(0,.slice A us.length cap)] rfl ?_
 refine cSL (lL hs [.v 2 (.bool false)] (lN (CG.seq (cSL (lL hs [.m 5 0,.v 6 (.int .i64 (us.length:Nat))] ?_)))))
 cases hb1:(((us.length:Nat):Int) == (0:Int))
 ·
  have phb1:=neOfBeq hb1
  refine lB 7 hb1 ?_
  refine lL hs [.m 8 7,.m 9 0] (lX 10 A us.length cap 1 0 0 ((hs.f.2.1).ok oM) ?_)
  obtain ⟨Aqz,cqz,eqz,hcqz,hRqz⟩:=(hs.f.1).at_ 0 oM
  replace hs:=(hs.a_SlO hRqz)
  refine lHe 11 (us.getD 0 undef) hs ((hs.f.2.2.1).el 0 oM) eqz ?_
  refine lL hs [.v 12 (.int .i64 ((W.getD 0 []).length:Nat))] ?_
  cases hb2:((((W.getD 0 []).length:Nat):Int) == (0:Int))
  ·
   have phb2:=neOfBeq hb2
   refine lB 13 hb2 ?_
   refine lL hs [.v 14 (.bool false)] (lN (cIF (CG.skipN (CG.seq (cSL (lL hs [.m 15 0,.v 16 (.int .i64 (us.length:Nat)),.v 17 (.int .i64 0)] (lN (CG.block (cTo [(0,.slice A us.length cap),(15,.slice A us.length cap),(16,.int .i64 (us.length:Nat)),(17,.int .i64 0)] ?_)))))))))
   refine CG.loop (fun μ_ Γ w_=>∃ (k:Nat) (h_:Hp),μ_=us.length-k∧Γ=[(0,.slice A us.length cap),(15,.slice A us.length cap),(16,.int .i64 (us.length:Nat)),(17,.int .i64 (k:Nat))]∧SS w h w_ h_ [] [] [fun h_=>SlO 5 qc 0 h_ Aqz (W.getD 0 []),fun h_=>QVs h_ us W,fun h_=>SlO 1 vc undef h_ A us]∧(k≤us.length)∧(∀ i,i<k→(W.getD i []).length=(W.getD 0 []).length)) _ ⟨0,h,rfl,rfl,hs.to _ _,Nat.zero_le _,fun i hi=>absurd hi (Nat.not_lt_zero i)⟩ ?_
   rintro _ _ w3 ⟨k,h4,hm5,rfl,hs,hk,hR⟩
   refine cSL ?_
   cases hb6:(decide (((k:Nat):Int)<((us.length:Nat):Int)))
   ·
    have phb6:=oF hb6
    refine lB 18 hb6 ?_
    refine lN (CG.seq (cIF (CG.exit ?_)))
    show CG _ _ _ _ _ _ _ _
    exact cSL (lL hs [.v 2 (.bool true)] (lN (CG.ret (hs.ret [] (.bool true) (rq_t ⟨by omega,by omega,fun i hi=>hR i oM⟩)))))
   have phb6:=oT hb6
   refine lB 18 hb6 ?_
   refine lN (CG.seq (cIT (CG.skipN (CG.seq (CG.block (cSL (lX 19 A us.length cap 1 (k:Nat) k ((hs.f.2.2.1).ok oM) ?_)))))))
   obtain ⟨Aqx,cqx,eqx,hcqx,hRqx⟩:=(hs.f.2.1).at_ k oM
   replace hs:=(hs.a_SlO hRqx)
   refine lHe 20 (us.getD k undef) hs ((hs.f.2.2.2.1).el k oM) eqx ?_
   refine lL hs [.m 4 20] (lNS (lL hs [.m 21 4,.v 22 (.int .i64 ((W.getD k []).length:Nat)),.m 23 0] (lX 24 A us.length cap 1 0 0 ((hs.f.2.2.2.1).ok oM) ?_)))
   obtain ⟨Aqy,cqy,eqy,hcqy,hRqy⟩:=(hs.f.2.2.1).at_ 0 oM
   replace hs:=(hs.a_SlO hRqy)
   refine lHe 25 (us.getD 0 undef) hs ((hs.f.2.2.2.2.1).el 0 oM) eqy ?_
   refine lL hs [.v 26 (.int .i64 ((W.getD 0 []).length:Nat))] ?_
   cases hb7:((((W.getD k []).length:Nat):Int) != (((W.getD 0 []).length:Nat):Int))
   ·
    have phb7:=eqOfBne hb7
    refine lB 27 hb7 ?_
    refine lN (cIF (CG.skipN (CG.listed (lIn 28 ((k:Nat)+1) (k+1) ?_))))
    refine lL hs [.m 17 28] (lD ?_)
    intro a_ ka
    have q8:(k+1)≤us.length:=by omega
    have q9:∀ i,i<(k+1)→(W.getD i []).length=(W.getD 0 []).length:=right_step hR oM
    replace hs:=hs.tl.tl
    refine ⟨_,_,?_,⟨k+1,h4,rfl,rfl,hs.to _ _,q8,q9⟩,ka.to [(0,.slice A us.length cap),(15,.slice A us.length cap),(16,.int .i64 (us.length:Nat)),(17,.int .i64 ((k+1):Nat))] kR⟩
    omega
   have phb7:=neOfBne hb7
   refine lB 27 hb7 ?_
   exact lN (cIT (cSL (lL hs [.v 2 (.bool false)] (lN (CG.ret (hs.ret [] (.bool false) (rq_f (fun h_=>by have h1_:=h_.1;have h2_:=h_.2.1;have h3_:=h_.2.2 k oM;omega))))))))
  have phb2:=eq_of_beq hb2
  refine lB 13 hb2 ?_
  exact lL hs [.v 14 (.bool true)] (lN (cIT (cSL (lL hs [.v 2 (.bool false)] (lN (CG.ret (hs.ret [] (.bool false) (rq_f (fun h_=>by have h1_:=h_.1;have h2_:=h_.2.1;omega)))))))))
 have phb1:=eq_of_beq hb1
 refine lB 7 hb1 ?_
 refine lL hs [.m 8 7] (lG 9 ?_)
 refine lG 10 ?_
 refine lG 11 ?_
 refine lG 12 ?_
 refine lG 13 ?_
 exact lL hs [.v 14 (.bool true)] (lN (cIT (cSL (lL hs [.v 2 (.bool false)] (lN (CG.ret (hs.ret [] (.bool false) (rq_f (fun h_=>by have h1_:=h_.1;have h2_:=h_.2.1;omega)))))))))
theorem rRightG (A:Option Addr)(cap:Nat)(us:List Value)(W:List (List Rat))(hl:W.length≤1000000)(hls:∀ i,i<W.length→(W.getD i []).length≤1000000)(w:World)(h:Hp)(g:G w h)(hA:SlO 1 vc undef h A us)(hU:RVs h us W) :
    Calls Tryz.prog 104 #[.slice A us.length cap] w (Ret w h fun v _=>v=.bool (rightq W)):=by
 have hs:=SS.start g
 replace hs:=((hs.a_SlO hA).add (K:=fun h_=>RVs h_ us W) hU)
 have hlu:=(hs.f.1).len
 refine go Tryz.func104 [(0,.slice A us.length cap)] rfl ?_
 refine cSL (lL hs [.v 2 (.bool false)] (lN (CG.seq (cSL (lL hs [.v 3 (.int .i64 0)] (lN (CG.block (cTo [(0,.slice A us.length cap),(3,.int .i64 0)] ?_))))))))
 refine CG.loop (fun μ_ Γ w_=>∃ (k:Nat) (h_:Hp),μ_=us.length-k∧Γ=[(0,.slice A us.length cap),(3,.int .i64 (k:Nat))]∧SS w h w_ h_ [] [] [fun h_=>RVs h_ us W,fun h_=>SlO 1 vc undef h_ A us]∧(k≤us.length)∧(∀ i,i<k→(W.getD i []).length=(W.getD 0 []).length)∧(0<k→0<(W.getD 0 []).length)) _ ⟨0,h,rfl,rfl,hs.to _ _,Nat.zero_le _,fun i hi=>absurd hi (Nat.not_lt_zero i),fun h_=>absurd h_ (Nat.lt_irrefl 0)⟩ ?_
 rintro _ _ w1 ⟨k,h2,hm3,rfl,hs,hk,hR,hR0⟩
 refine CG.seq (cSL (lL hs [.m 4 3,.m 5 0,.v 6 (.int .i64 (us.length:Nat))] ?_))
 cases hb4:(decide (((k:Nat):Int)<((us.length:Nat):Int)))
 ·
  have phb4:=oF hb4
  refine lB 7 hb4 ?_
  refine lN (cIF (CG.exit ?_))
  show CG _ _ _ _ _ _ _ _
  refine cSL (lL hs [.m 28 0,.v 29 (.int .i64 (us.length:Nat))] ?_)
  cases hb5:(decide ((0:Int)<((us.length:Nat):Int)))
  ·
   have phb5:=oF hb5
   refine lB 30 hb5 ?_
   exact lL hs [.m 2 30] (lN (CG.ret (hs.ret [] (.bool false) (rq_f (fun h_=>by have h1_:=h_.1;have h2_:=h_.2.1;first|omega|(have h3_:=h_.2.2 k oM;omega))))))
  have phb5:=oT hb5
  refine lB 30 hb5 ?_
  exact lL hs [.m 2 30] (lN (CG.ret (hs.ret [] (.bool true) (rq_t ⟨by omega,hR0 oM,fun i hi=>hR i oM⟩))))
 have phb4:=oT hb4
 refine lB 7 hb4 ?_
 refine lN (cIT (CG.skipN (CG.seq (CG.block (CG.seq (cR 18 [] mixed hs al_nil ?_))))))
 refine eV 0 10 (.slice A us.length cap) ?_
 refine eV 1 11 (.int .i64 (k:Nat)) ?_
 refine eX 2 12 A us.length cap 1 (k:Nat) k ((hs.f.2.1).ok oM) ?_
 obtain ⟨Arx,crx,trx,erx,hcrx,hRrx,hTrx⟩:=(hs.f.1).at_ k oM
 have hlrx:=hTrx.len
 replace hs:=((hs.a_SlO hRrx).add (K:=fun h_=>RTs h_ trx (W.getD k [])) hTrx)
 refine eHe 3 13 (us.getD k undef) hs ((hs.f.2.2.2.1).el k oM) erx ?_
 refine eV 4 14 (.int .i64 (trx.length:Nat)) ?_
 refine eV 5 15 (.slice A us.length cap) ?_
 refine eX 6 16 A us.length cap 1 0 0 ((hs.f.2.2.2.1).ok oM) ?_
 obtain ⟨Arz,crz,trz,erz,hcrz,hRrz,hTrz⟩:=(hs.f.2.2.1).at_ 0 oM
 have hlrz:=hTrz.len
 replace hs:=((hs.a_SlO hRrz).add (K:=fun h_=>RTs h_ trz (W.getD 0 [])) hTrz)
 refine eHe 7 17 (us.getD 0 undef) hs ((hs.f.2.2.2.2.2.1).el 0 oM) erz ?_
 refine eV 8 18 (.int .i64 (trz.length:Nat)) ?_
 cases hb6:(((trx.length:Nat):Int) != ((trz.length:Nat):Int))
 ·
  have phb6:=eqOfBne hb6
  refine eB 9 19 hb6 ?_
  refine eV 10 20 (.bool false) ?_
  refine eV 11 21 (.slice A us.length cap) ?_
  refine eV 12 22 (.int .i64 (k:Nat)) ?_
  refine eX 13 23 A us.length cap 1 (k:Nat) k ((hs.f.2.2.2.2.2.1).ok oM) ?_
  obtain ⟨Arv,crv,trv,erv,hcrv,hRrv,hTrv⟩:=(hs.f.2.2.2.2.1).at_ k oM
  have hlrv:=hTrv.len
  replace hs:=((hs.a_SlO hRrv).add (K:=fun h_=>RTs h_ trv (W.getD k [])) hTrv)
  refine eHe 14 24 (us.getD k undef) hs ((hs.f.2.2.2.2.2.2.2.1).el k oM) erv ?_
  refine eV 15 25 (.int .i64 (trv.length:Nat)) ?_
  cases hb7:(((trv.length:Nat):Int) == (0:Int))
  ·
   have phb7:=neOfBeq hb7
   refine eB 16 26 hb7 ?_
   refine eV 17 27 (.bool false) ?_
   refine eD0 hs (fun w8 h9 hs=>?_)
   refine tN (cIF (CG.skipN (CG.listed (lL hs [.m 8 3] (lIn 9 ((k:Nat)+1) (k+1) ?_)))))
   refine lL hs [.m 3 9] (lD ?_)
   intro a_ ka
   have q10:(k+1)≤us.length:=by omega
   have q11:∀ i,i<(k+1)→(W.getD i []).length=(W.getD 0 []).length:=right_step hR oM
   have q12:0<(k+1)→0<(W.getD 0 []).length:=fun _=>by omega
   replace hs:=hs.tl.tl.tl.tl.tl.tl
   refine ⟨_,_,?_,⟨k+1,h9,rfl,rfl,hs.to _ _,q10,q11,q12⟩,ka.to [(0,.slice A us.length cap),(3,.int .i64 ((k+1):Nat))] kR⟩
   omega
  have phb7:=eq_of_beq hb7
  refine eB 16 26 hb7 ?_
  refine eV 17 27 (.bool true) ?_
  refine eD0 hs (fun w13 h14 hs=>?_)
  exact tN (cIT (cSL (lL hs [.v 2 (.bool false)] (lN (CG.ret (hs.ret [] (.bool false) (rq_f (fun h_=>by have h1_:=h_.1;have h2_:=h_.2.1;first|omega|(have h3_:=h_.2.2 k oM;omega)))))))))
 have phb6:=neOfBne hb6
 refine eB 9 19 hb6 ?_
 refine eV 10 20 (.bool true) ?_
 refine eG 11 21 ?_
 refine eG 12 22 ?_
 refine eG 13 23 ?_
 refine eG 14 24 ?_
 refine eG 15 25 ?_
 refine eG 16 26 ?_
 refine eV 17 27 (.bool true) ?_
 refine eD0 hs (fun w15 h16 hs=>?_)
 exact tN (cIT (cSL (lL hs [.v 2 (.bool false)] (lN (CG.ret (hs.ret [] (.bool false) (rq_f (fun h_=>by have h1_:=h_.1;have h2_:=h_.2.1;first|omega|(have h3_:=h_.2.2 k oM;omega)))))))))
theorem nKnownG (k:Int)(w:World)(h:Hp)(g:G w h) :
    Calls Tryz.prog 141 #[.int .i64 k] w (Ret w h fun v _=>v=.bool (decide (1≤k∧k≤3))):=by
 have hs:=SS.start g
 refine go Tryz.func141 [(0,.int .i64 k)] rfl ?_
 refine cSL (lL hs [.v 2 (.bool false)] (lNS (lL hs [.m 3 0] ?_)))
 cases hb1:((k:Int) == (1:Int))
 ·
  have phb1:=neOfBeq hb1
  refine lB 4 hb1 ?_
  refine lL hs [.m 5 4,.m 6 0] ?_
  cases hb2:((k:Int) == (2:Int))
  ·
   have phb2:=neOfBeq hb2
   refine lB 7 hb2 ?_
   refine lL hs [.v 8 (.bool false),.m 9 8,.m 10 0] ?_
   cases hb3:((k:Int) == (3:Int))
   ·
    have phb3:=neOfBeq hb3
    refine lB 11 hb3 ?_
    exact lL hs [.v 12 (.bool false),.m 2 12] (lN (CG.ret (hs.ret [] (.bool false) (congrArg Value.bool (decide_eq_false oM).symm))))
   have phb3:=eq_of_beq hb3
   refine lB 11 hb3 ?_
   exact lL hs [.v 12 (.bool true),.m 2 12] (lN (CG.ret (hs.ret [] (.bool true) (congrArg Value.bool (decide_eq_true oM).symm))))
  have phb2:=eq_of_beq hb2
  refine lB 7 hb2 ?_
  refine lL hs [.v 8 (.bool true),.m 9 8] (lG 10 ?_)
  refine lG 11 ?_
  exact lL hs [.v 12 (.bool true),.m 2 12] (lN (CG.ret (hs.ret [] (.bool true) (congrArg Value.bool (decide_eq_true oM).symm))))
 have phb1:=eq_of_beq hb1
 refine lB 4 hb1 ?_
 refine lL hs [.m 5 4] (lG 6 ?_)
 refine lG 7 ?_
 refine lL hs [.v 8 (.bool true),.m 9 8] (lG 10 ?_)
 refine lG 11 ?_
 exact lL hs [.v 12 (.bool true),.m 2 12] (lN (CG.ret (hs.ret [] (.bool true) (congrArg Value.bool (decide_eq_true oM).symm))))
def Fine (ls:List Lay)(k:Nat):Prop:=RightP (ls.getD k lay0).W∧(ls.getD k lay0).W.length≤12∧(ls.getD k lay0).B.length=(ls.getD k lay0).W.length∧(k=0→((ls.getD k lay0).W.getD 0 []).length≤20)∧(0<k→((ls.getD k lay0).W.getD 0 []).length=(ls.getD (k-1) lay0).W.length)
def Kd (ls:List Lay)(k:Nat):Prop:=1≤(ls.getD k lay0).k∧(ls.getD k lay0).k≤3
open Classical in
noncomputable def chkFrom (ls:List Lay) (k:Nat):Nat→Int
  | 0=>0
  | n+1=>if Fine ls k then (if Kd ls k then chkFrom ls (k+1) n else 10) else 5
noncomputable def chkq (ls:List Lay):Int:=if 1≤ls.length∧ls.length≤4 then chkFrom ls 0 ls.length else 5
theorem chk_len {ls:List Lay}(h:¬(1≤ls.length∧ls.length≤4)):Value.int .i64 5=.int .i64 (chkq ls):=by unfold chkq;rw[if_neg h]
theorem chk_start {ls:List Lay}(h:1≤ls.length∧ls.length≤4):chkq ls=chkFrom ls 0 (ls.length-0):=by unfold chkq;rw[if_pos h];rfl
theorem chk_sub {ls:List Lay}{k:Nat}(h:k<ls.length):ls.length-k=(ls.length-(k+1))+1:=by omega
theorem chk_end {ls:List Lay}{k:Nat}(h:chkq ls=chkFrom ls k (ls.length-k))(hk:ls.length≤k):Value.int .i64 0=.int .i64 (chkq ls):=by rw[h,Nat.sub_eq_zero_of_le hk];rfl
theorem chk_bad {ls:List Lay}{k:Nat}(h:chkq ls=chkFrom ls k (ls.length-k))(hk:k<ls.length)(hf:¬Fine ls k):Value.int .i64 5=.int .i64 (chkq ls):=by rw[h,chk_sub hk,chkFrom,if_neg hf]
theorem chk_kind {ls:List Lay}{k:Nat}(h:chkq ls=chkFrom ls k (ls.length-k))(hk:k<ls.length)(hf:Fine ls k)(hd:¬Kd ls k):Value.int .i64 10=.int .i64 (chkq ls):=by rw[h,chk_sub hk,chkFrom,if_pos hf,if_neg hd]
theorem chk_step {ls:List Lay}{k:Nat}(h:chkq ls=chkFrom ls k (ls.length-k))(hk:k<ls.length)(hf:Fine ls k)(hd:Kd ls k):chkq ls=chkFrom ls (k+1) (ls.length-(k+1)):=by rw[h,chk_sub hk,chkFrom,if_pos hf,if_pos hd]
structure LayLen (L:Lay):Prop where
  rl:L.W.length≤1000000
  rls:∀ i,i<L.W.length→(L.W.getD i []).length≤1000000
  bl:L.B.length≤1000000
theorem nCheckG (A:Option Addr)(cap:Nat)(ts:List LV)(ls:List Lay)(hn:ls.length≤1000000)(hF:∀ i,i<ls.length→LayLen (ls.getD i lay0))(w:World)(h:Hp)(g:G w h)(hA:SlO 3 lvc lvd h A ts)(hN:NetL h ts ls) :
    Calls Tryz.prog 67 #[.agg #[.slice A ts.length cap]] w (Ret w h fun v _=>v=.int .i64 (chkq ls)):=by
 have hs:=SS.start g
 replace hs:=((hs.a_SlO hA).add (K:=fun h_=>NetL h_ ts ls) hN)
 have hl:=(hs.f.1).len
 refine go Tryz.func67 [(0,.agg #[.slice A ts.length cap])] rfl ?_
 refine cSL (lA 1 57 ([.slice A ts.length cap]) hs (fun b1 w2 h3 hs=>?_))
 refine lL hs [.v 2 (.int .i64 0)] (lN (CG.seq (cSL (lL hs [.v 5 (.pointer (some ⟨b1,0,none⟩)),.o 6 (.slice A ts.length cap) 0 0 1,.v 7 (.int .i64 (ts.length:Nat))] ?_))))
 cases hb4:(decide (((ts.length:Nat):Int)<(1:Int)))
 ·
  have phb4:=oF hb4
  refine lB 8 hb4 ?_
  refine lL hs [.m 9 8,.v 10 (.pointer (some ⟨b1,0,none⟩)),.o 11 (.slice A ts.length cap) 0 0 1,.v 12 (.int .i64 (ts.length:Nat))] ?_
  cases hb5:(decide ((4:Int)<((ts.length:Nat):Int)))
  ·
   have phb5:=oF hb5
   refine lB 13 hb5 ?_
   refine lL hs [.v 14 (.bool false)] (lN (cIF (CG.skipN (CG.seq (cSL (lL hs [.v 15 (.pointer (some ⟨b1,0,none⟩)),.o 16 (.slice A ts.length cap) 0 0 1,.v 17 (.int .i64 (ts.length:Nat)),.v 18 (.int .i64 0)] (lN (CG.block (cTo [(1,.pointer (some ⟨b1,0,none⟩)),(16,.slice A ts.length cap),(17,.int .i64 (ts.length:Nat)),(18,.int .i64 0)] ?_)))))))))
   refine CG.loop (fun μ_ Γ w_=>∃ (k:Nat) (h_:Hp),μ_=ls.length-k∧Γ=[(1,.pointer (some ⟨b1,0,none⟩)),(16,.slice A ts.length cap),(17,.int .i64 (ts.length:Nat)),(18,.int .i64 (k:Nat))]∧SS w h w_ h_ [⟨b1,57,[.slice A ts.length cap]⟩] [] [fun h_=>NetL h_ ts ls,fun h_=>SlO 3 lvc lvd h_ A ts]∧(k≤ls.length)∧(chkq ls=chkFrom ls k (ls.length-k))) _ ⟨0,h3,rfl,rfl,hs.to _ _,Nat.zero_le _,chk_start oM⟩ ?_
   rintro _ _ w6 ⟨k,h7,hm8,rfl,hs,hk,hi⟩
   refine cSL ?_
   cases hb9:(decide (((k:Nat):Int)<((ts.length:Nat):Int)))
   ·
    have phb9:=oF hb9
    refine lB 19 hb9 ?_
    refine lN (CG.seq (cIF (CG.exit ?_)))
    show CG _ _ _ _ _ _ _ _
    exact cSL (lL hs [.v 2 (.int .i64 0)] (lN (CG.ret (hs.ret [] (.int .i64 0) (chk_end hi oM)))))
   have phb9:=oT hb9
   refine lB 19 hb9 ?_
   refine lN (CG.seq (cIT (CG.skipN (CG.seq (CG.block (cSL (lL hs [.m 20 18] (lX 21 A ts.length cap 3 (k:Nat) k ((hs.f.2.1).ok oM) ?_))))))))
   obtain ⟨ekx,⟨AWx,cWx,usx,eWx,hcWx,hAWx,hUx⟩,⟨ABx,cBx,eBx,hcBx,hABx⟩⟩:=(hs.f.1).at_ k oM
   have lux:=hUx.len
   replace hs:=(((hs.a_SlO hAWx).add (K:=fun h_=>QVs h_ usx (ls.getD k lay0).W) hUx).a_SlO hABx)
   refine lHe 22 (.agg #[.int .i64 ((ts.getD k lvd).1),(ts.getD k lvd).2.1,(ts.getD k lvd).2.2]) hs ((hs.f.2.2.2.2.1).el k oM) (by rw[ekx,eWx,eBx]) ?_
   refine lA 4 114 ([.int .i64 0,.slice none 0 0,.slice none 0 0]) hs (fun b10 w11 h12 hs=>?_)
   refine lL hs [.m 3 20] (lP 0 0 ([.int .i64 ((ls.getD k lay0).k),.slice AWx usx.length cWx,.slice ABx ((ls.getD k lay0).B.length) cBx]) hs (fun w13 hs=>?_))
   refine lN (CG.seq (cSL (lL hs [.v 23 (.pointer (some ⟨b10,1,none⟩)),.o 24 (.slice AWx usx.length cWx) 0 1 1] (lC 25 hs (mRightG AWx cWx usx (ls.getD k lay0).W (hF k oM).rl (hF k oM).rls _ _ hs.g (hs.f.2.2.1) (hs.f.2.1)) ?_))))
   rintro _ w14 h15 hs rfl
   cases hb16:(rightq (ls.getD k lay0).W)
   ·
    have phb16:=rq_not hb16
    refine lL hs [.v 26 (.bool true),.m 27 26] (lG 28 ?_)
    refine lG 29 ?_
    refine lG 30 ?_
    refine lG 31 ?_
    refine lL hs [.v 32 (.bool true),.m 33 32] (lG 34 ?_)
    refine lG 35 ?_
    refine lG 36 ?_
    refine lG 37 ?_
    refine lG 38 ?_
    refine lG 39 ?_
    refine lG 40 ?_
    exact lL hs [.v 41 (.bool true)] (lN (cIT (cSL (lL hs [.v 2 (.int .i64 5)] (lN (CG.ret (hs.ret [] (.int .i64 5) (chk_bad hi oM (fun ⟨f1,f2,f3,f4,f5⟩=>by first|exact absurd f1 aM|omega|(have:=f4 oM;omega)|(have:=f5 oM;omega)|(have:=hwd oM;have:=f5 oM;omega))))))))))
   have phb16:=rq_is hb16
   refine lL hs [.v 26 (.bool false),.m 27 26] ?_
   obtain ⟨hr1,hr2,hr3⟩:=‹RightP (ls.getD k lay0).W›
   refine lL hs [.v 28 (.pointer (some ⟨b10,1,none⟩)),.o 29 (.slice AWx usx.length cWx) 0 1 1,.v 30 (.int .i64 (usx.length:Nat))] ?_
   cases hb17:(decide ((12:Int)<((usx.length:Nat):Int)))
   ·
    have phb17:=oF hb17
    refine lB 31 hb17 ?_
    refine lL hs [.v 32 (.bool false),.m 33 32,.v 34 (.pointer (some ⟨b10,2,none⟩)),.o 35 (.slice ABx ((ls.getD k lay0).B.length) cBx) 0 2 1,.v 36 (.int .i64 ((ls.getD k lay0).B.length:Nat)),.v 37 (.pointer (some ⟨b10,1,none⟩)),.o 38 (.slice AWx usx.length cWx) 0 1 1,.v 39 (.int .i64 (usx.length:Nat))] ?_
    cases hb18:((((ls.getD k lay0).B.length:Nat):Int) != ((usx.length:Nat):Int))
    ·
     have phb18:=eqOfBne hb18
     refine lB 40 hb18 ?_
     refine lL hs [.v 41 (.bool false)] (lN (cIF (CG.skipN (CG.seq (CG.seq (cR 30 [] mixed hs al_nil ?_))))))
     refine eV 0 42 (.int .i64 (k:Nat)) ?_
     cases hb19:(((k:Nat):Int) == (0:Int))
     ·
      have phb19:=neOfBeq hb19
      refine eB 1 43 hb19 ?_
      refine eV 2 44 (.bool false) ?_
      refine eG 3 45 ?_
      refine eG 4 46 ?_
      refine eG 5 47 ?_
      refine eG 6 48 ?_
      refine eG 7 49 ?_
      refine eG 8 50 ?_
      refine eV 9 51 (.bool false) ?_
      refine eV 10 52 (.bool false) ?_
      refine eV 11 53 (.int .i64 (k:Nat)) ?_
      cases hb20:(decide ((0:Int)<((k:Nat):Int)))
      ·
       have phb20:=oF hb20
       refine eB 12 54 hb20 ?_
       refine eV 13 55 (.bool false) ?_
       refine eG 14 56 ?_
       refine eG 15 57 ?_
       refine eG 16 58 ?_
       refine eG 17 59 ?_
       refine eG 18 60 ?_
       refine eG 19 61 ?_
       refine eG 20 62 ?_
       refine eG 21 63 ?_
       refine eG 22 64 ?_
       refine eG 23 65 ?_
       refine eG 24 66 ?_
       refine eG 25 67 ?_
       refine eG 26 68 ?_
       refine eG 27 69 ?_
       refine eV 28 70 (.bool false) ?_
       refine eV 29 71 (.bool false) ?_
       refine eD0 hs (fun w21 h22 hs=>?_)
       refine tN (cTo [(1,.pointer (some ⟨b1,0,none⟩)),(16,.slice A ts.length cap),(17,.int .i64 (ts.length:Nat)),(18,.int .i64 (k:Nat)),(4,.pointer (some ⟨b10,0,none⟩)),(71,.bool false)] ?_)
       refine cIF (CG.skipN (cSL (lL hs [.v 72 (.pointer (some ⟨b10,0,none⟩)),.o 73 (.int .i64 ((ls.getD k lay0).k)) 0 0 1] (lC 74 hs (nKnownG (ls.getD k lay0).k _ _ hs.g) ?_))))
       rintro _ w23 h24 hs rfl
       cases hb25:(decide (1≤(ls.getD k lay0).k∧(ls.getD k lay0).k≤3))
       ·
        have phb25:=oF hb25
        exact lL hs [.v 75 (.bool true)] (lN (cIT (cSL (lL hs [.v 2 (.int .i64 10)] (lN (CG.ret (hs.ret [] (.int .i64 10) (chk_kind hi oM (⟨‹RightP _›,by omega,by omega,fun _=>by omega,fun h_=>by first|omega|(have:=hwd h_;omega)⟩) (by first|assumption|(intro h_;have h1_:=h_.1;have h2_:=h_.2;omega))))))))))
       have phb25:=oT hb25
       refine lL hs [.v 75 (.bool false)] (lN (cIF (CG.skipN (CG.listed (lIn 76 ((k:Nat)+1) (k+1) ?_)))))
       refine lL hs [.m 18 76] (lD ?_)
       intro a_ ka
       have q26:(k+1)≤ls.length:=by omega
       have q27:chkq ls=chkFrom ls (k+1) (ls.length-(k+1)):=chk_step hi oM ⟨‹RightP _›,by omega,by omega,fun _=>by omega,fun _=>by omega⟩ aM
       replace hs:=hs.tl.tl.tl
       replace hs:=hs.drop 1 0
       refine ⟨_,_,?_,⟨k+1,h24,rfl,rfl,hs.to _ _,q26,q27⟩,ka.to [(1,.pointer (some ⟨b1,0,none⟩)),(16,.slice A ts.length cap),(17,.int .i64 (ts.length:Nat)),(18,.int .i64 ((k+1):Nat))] kR⟩
       omega
      have phb20:=oT hb20
      refine eB 12 54 hb20 ?_
      refine eV 13 55 (.bool true) ?_
      refine eV 14 56 (.pointer (some ⟨b10,1,none⟩)) ?_
      refine eO 15 57 [(0,1,1)] (.slice AWx usx.length cWx) hs ?_
      refine eX 16 58 AWx usx.length cWx 1 0 0 ((hs.f.2.2.1).ok oM) ?_
      obtain ⟨Arq,crq,erq,hcrq,hRrq⟩:=(hs.f.2.1).at_ 0 oM
      replace hs:=(hs.a_SlO hRrq)
      refine eHe 17 59 (usx.getD 0 undef) hs ((hs.f.2.2.2.1).el 0 oM) erq ?_
      refine eV 18 60 (.int .i64 ((((ls.getD k lay0).W).getD 0 []).length:Nat)) ?_
      refine eV 19 61 (.pointer (some ⟨b1,0,none⟩)) ?_
      refine eO 20 62 [(1,0,1)] (.slice A ts.length cap) hs ?_
      refine eV 21 63 (.int .i64 (k:Nat)) ?_
      refine eIn 22 64 ((k:Nat)-1) (k-1) ?_
      refine eX 23 65 A ts.length cap 3 (k-1:Nat) (k-1) ((hs.f.2.2.2.2.2.1).ok oM) ?_
      refine eV 24 66 (.pointer (some ⟨(aB A),aO A+(k-1)*3+1,none⟩)) ?_
      obtain ⟨eky,⟨AWy,cWy,usy,eWy,hcWy,hAWy,hUy⟩,⟨ABy,cBy,eBy,hcBy,hABy⟩⟩:=(hs.f.2.2.2.2.1).at_ (k-1) oM
      have luy:=hUy.len
      replace hs:=(((hs.a_SlO hAWy).add (K:=fun h_=>QVs h_ usy (ls.getD (k-1) lay0).W) hUy).a_SlO hABy)
      refine eHe 25 67 ((ts.getD (k-1) lvd).2.1) hs (((hs.f.2.2.2.2.2.2.2.2.1).el (k-1) oM).part 1 1) eWy ?_
      refine eV 26 68 (.int .i64 (usy.length:Nat)) ?_
      cases hb28:((((((ls.getD k lay0).W).getD 0 []).length:Nat):Int) != ((usy.length:Nat):Int))
      ·
       have phb28:=eqOfBne hb28
       refine eB 27 69 hb28 ?_
       refine eV 28 70 (.bool false) ?_
       refine eV 29 71 (.bool false) ?_
       refine eD0 hs (fun w29 h30 hs=>?_)
       refine tN (cTo [(1,.pointer (some ⟨b1,0,none⟩)),(16,.slice A ts.length cap),(17,.int .i64 (ts.length:Nat)),(18,.int .i64 (k:Nat)),(4,.pointer (some ⟨b10,0,none⟩)),(71,.bool false)] ?_)
       refine cIF (CG.skipN (cSL (lL hs [.v 72 (.pointer (some ⟨b10,0,none⟩)),.o 73 (.int .i64 ((ls.getD k lay0).k)) 0 0 1] (lC 74 hs (nKnownG (ls.getD k lay0).k _ _ hs.g) ?_))))
       rintro _ w31 h32 hs rfl
       cases hb33:(decide (1≤(ls.getD k lay0).k∧(ls.getD k lay0).k≤3))
       ·
        have phb33:=oF hb33
        exact lL hs [.v 75 (.bool true)] (lN (cIT (cSL (lL hs [.v 2 (.int .i64 10)] (lN (CG.ret (hs.ret [] (.int .i64 10) (chk_kind hi oM (⟨‹RightP _›,by omega,by omega,fun _=>by omega,fun h_=>by first|omega|(have:=hwd h_;omega)⟩) (by first|assumption|(intro h_;have h1_:=h_.1;have h2_:=h_.2;omega))))))))))
       have phb33:=oT hb33
       refine lL hs [.v 75 (.bool false)] (lN (cIF (CG.skipN (CG.listed (lIn 76 ((k:Nat)+1) (k+1) ?_)))))
       refine lL hs [.m 18 76] (lD ?_)
       intro a_ ka
       have q34:(k+1)≤ls.length:=by omega
       have q35:chkq ls=chkFrom ls (k+1) (ls.length-(k+1)):=chk_step hi oM ⟨‹RightP _›,by omega,by omega,fun _=>by omega,fun _=>by omega⟩ aM
       replace hs:=hs.tl.tl.tl.tl.tl.tl.tl
       replace hs:=hs.drop 1 0
       refine ⟨_,_,?_,⟨k+1,h32,rfl,rfl,hs.to _ _,q34,q35⟩,ka.to [(1,.pointer (some ⟨b1,0,none⟩)),(16,.slice A ts.length cap),(17,.int .i64 (ts.length:Nat)),(18,.int .i64 ((k+1):Nat))] kR⟩
       omega
      have phb28:=neOfBne hb28
      refine eB 27 69 hb28 ?_
      refine eV 28 70 (.bool true) ?_
      refine eV 29 71 (.bool true) ?_
      refine eD0 hs (fun w36 h37 hs=>?_)
      refine tN (cTo [(1,.pointer (some ⟨b1,0,none⟩)),(16,.slice A ts.length cap),(17,.int .i64 (ts.length:Nat)),(18,.int .i64 (k:Nat)),(4,.pointer (some ⟨b10,0,none⟩)),(71,.bool true)] ?_)
      exact cIT (cSL (lL hs [.v 2 (.int .i64 5)] (lN (CG.ret (hs.ret [] (.int .i64 5) (chk_bad hi oM (fun ⟨f1,f2,f3,f4,f5⟩=>by first|exact absurd f1 aM|omega|(have:=f4 oM;omega)|(have:=f5 oM;omega)|(have:=hwd oM;have:=f5 oM;omega))))))))
     have phb19:=eq_of_beq hb19
     refine eB 1 43 hb19 ?_
     refine eV 2 44 (.bool true) ?_
     refine eV 3 45 (.pointer (some ⟨b10,1,none⟩)) ?_
     refine eO 4 46 [(0,1,1)] (.slice AWx usx.length cWx) hs ?_
     refine eX 5 47 AWx usx.length cWx 1 0 0 ((hs.f.2.2.1).ok oM) ?_
     obtain ⟨Arp,crp,erp,hcrp,hRrp⟩:=(hs.f.2.1).at_ 0 oM
     replace hs:=(hs.a_SlO hRrp)
     refine eHe 6 48 (usx.getD 0 undef) hs ((hs.f.2.2.2.1).el 0 oM) erp ?_
     refine eV 7 49 (.int .i64 ((((ls.getD k lay0).W).getD 0 []).length:Nat)) ?_
     cases hb38:(decide ((20:Int)<(((((ls.getD k lay0).W).getD 0 []).length:Nat):Int)))
     ·
      have phb38:=oF hb38
      refine eB 8 50 hb38 ?_
      refine eV 9 51 (.bool false) ?_
      refine eV 10 52 (.bool false) ?_
      refine eV 11 53 (.int .i64 (k:Nat)) ?_
      have ⟨hb39,phb39⟩:=dF (p:=(0:Int)<((k:Nat):Int)) oM
      refine eB 12 54 hb39 ?_
      refine eV 13 55 (.bool false) ?_
      refine eG 14 56 ?_
      refine eG 15 57 ?_
      refine eG 16 58 ?_
      refine eG 17 59 ?_
      refine eG 18 60 ?_
      refine eG 19 61 ?_
      refine eG 20 62 ?_
      refine eG 21 63 ?_
      refine eG 22 64 ?_
      refine eG 23 65 ?_
      refine eG 24 66 ?_
      refine eG 25 67 ?_
      refine eG 26 68 ?_
      refine eG 27 69 ?_
      refine eV 28 70 (.bool false) ?_
      refine eV 29 71 (.bool false) ?_
      refine eD0 hs (fun w40 h41 hs=>?_)
      refine tN (cTo [(1,.pointer (some ⟨b1,0,none⟩)),(16,.slice A ts.length cap),(17,.int .i64 (ts.length:Nat)),(18,.int .i64 (k:Nat)),(4,.pointer (some ⟨b10,0,none⟩)),(71,.bool false)] ?_)
      refine cIF (CG.skipN (cSL (lL hs [.v 72 (.pointer (some ⟨b10,0,none⟩)),.o 73 (.int .i64 ((ls.getD k lay0).k)) 0 0 1] (lC 74 hs (nKnownG (ls.getD k lay0).k _ _ hs.g) ?_))))
      rintro _ w42 h43 hs rfl
      cases hb44:(decide (1≤(ls.getD k lay0).k∧(ls.getD k lay0).k≤3))
      ·
       have phb44:=oF hb44
       exact lL hs [.v 75 (.bool true)] (lN (cIT (cSL (lL hs [.v 2 (.int .i64 10)] (lN (CG.ret (hs.ret [] (.int .i64 10) (chk_kind hi oM (⟨‹RightP _›,by omega,by omega,fun _=>by omega,fun h_=>by first|omega|(have:=hwd h_;omega)⟩) (by first|assumption|(intro h_;have h1_:=h_.1;have h2_:=h_.2;omega))))))))))
      have phb44:=oT hb44
      refine lL hs [.v 75 (.bool false)] (lN (cIF (CG.skipN (CG.listed (lIn 76 ((k:Nat)+1) (k+1) ?_)))))
      refine lL hs [.m 18 76] (lD ?_)
      intro a_ ka
      have q45:(k+1)≤ls.length:=by omega
      have q46:chkq ls=chkFrom ls (k+1) (ls.length-(k+1)):=chk_step hi oM ⟨‹RightP _›,by omega,by omega,fun _=>by omega,fun _=>by omega⟩ aM
      replace hs:=hs.tl.tl.tl.tl
      replace hs:=hs.drop 1 0
      refine ⟨_,_,?_,⟨k+1,h43,rfl,rfl,hs.to _ _,q45,q46⟩,ka.to [(1,.pointer (some ⟨b1,0,none⟩)),(16,.slice A ts.length cap),(17,.int .i64 (ts.length:Nat)),(18,.int .i64 ((k+1):Nat))] kR⟩
      omega
     have phb38:=oT hb38
     refine eB 8 50 hb38 ?_
     refine eV 9 51 (.bool true) ?_
     refine eV 10 52 (.bool true) ?_
     refine eG 11 53 ?_
     refine eG 12 54 ?_
     refine eG 13 55 ?_
     refine eG 14 56 ?_
     refine eG 15 57 ?_
     refine eG 16 58 ?_
     refine eG 17 59 ?_
     refine eG 18 60 ?_
     refine eG 19 61 ?_
     refine eG 20 62 ?_
     refine eG 21 63 ?_
     refine eG 22 64 ?_
     refine eG 23 65 ?_
     refine eG 24 66 ?_
     refine eG 25 67 ?_
     refine eG 26 68 ?_
     refine eG 27 69 ?_
     refine eG 28 70 ?_
     refine eV 29 71 (.bool true) ?_
     refine eD0 hs (fun w47 h48 hs=>?_)
     refine tN (cTo [(1,.pointer (some ⟨b1,0,none⟩)),(16,.slice A ts.length cap),(17,.int .i64 (ts.length:Nat)),(18,.int .i64 (k:Nat)),(4,.pointer (some ⟨b10,0,none⟩)),(71,.bool true)] ?_)
     exact cIT (cSL (lL hs [.v 2 (.int .i64 5)] (lN (CG.ret (hs.ret [] (.int .i64 5) (chk_bad hi oM (fun ⟨f1,f2,f3,f4,f5⟩=>by first|exact absurd f1 aM|omega|(have:=f4 oM;omega)|(have:=f5 oM;omega)|(have:=hwd oM;have:=f5 oM;omega))))))))
    have phb18:=neOfBne hb18
    refine lB 40 hb18 ?_
    exact lL hs [.v 41 (.bool true)] (lN (cIT (cSL (lL hs [.v 2 (.int .i64 5)] (lN (CG.ret (hs.ret [] (.int .i64 5) (chk_bad hi oM (fun ⟨f1,f2,f3,f4,f5⟩=>by first|exact absurd f1 aM|omega|(have:=f4 oM;omega)|(have:=f5 oM;omega)|(have:=hwd oM;have:=f5 oM;omega))))))))))
   have phb17:=oT hb17
   refine lB 31 hb17 ?_
   refine lL hs [.v 32 (.bool true),.m 33 32] (lG 34 ?_)
   refine lG 35 ?_
   refine lG 36 ?_
   refine lG 37 ?_
   refine lG 38 ?_
   refine lG 39 ?_
   refine lG 40 ?_
   exact lL hs [.v 41 (.bool true)] (lN (cIT (cSL (lL hs [.v 2 (.int .i64 5)] (lN (CG.ret (hs.ret [] (.int .i64 5) (chk_bad hi oM (fun ⟨f1,f2,f3,f4,f5⟩=>by first|exact absurd f1 aM|omega|(have:=f4 oM;omega)|(have:=f5 oM;omega)|(have:=hwd oM;have:=f5 oM;omega))))))))))
  have phb5:=oT hb5
  refine lB 13 hb5 ?_
  exact lL hs [.v 14 (.bool true)] (lN (cIT (cSL (lL hs [.v 2 (.int .i64 5)] (lN (CG.ret (hs.ret [] (.int .i64 5) (chk_len oM))))))))
 have phb4:=oT hb4
 refine lB 8 hb4 ?_
 refine lL hs [.m 9 8] (lG 10 ?_)
 refine lG 11 ?_
 refine lG 12 ?_
 refine lG 13 ?_
 exact lL hs [.v 14 (.bool true)] (lN (cIT (cSL (lL hs [.v 2 (.int .i64 5)] (lN (CG.ret (hs.ret [] (.int .i64 5) (chk_len oM))))))))
theorem rCheckG (A:Option Addr)(cap:Nat)(ts:List LV)(ls:List Lay)(hn:ls.length≤1000000)(hF:∀ i,i<ls.length→LayLen (ls.getD i lay0))(w:World)(h:Hp)(g:G w h)(hA:SlO 3 lvc lvd h A ts)(hN:RNetL h ts ls) :
    Calls Tryz.prog 29 #[.agg #[.slice A ts.length cap]] w (Ret w h fun v _=>v=.int .i64 (chkq ls)):=by
 have hs:=SS.start g
 replace hs:=((hs.a_SlO hA).add (K:=fun h_=>RNetL h_ ts ls) hN)
 have hl:=(hs.f.1).len
 refine go Tryz.func29 [(0,.agg #[.slice A ts.length cap])] rfl ?_
 refine cSL (lA 1 49 ([.slice A ts.length cap]) hs (fun b1 w2 h3 hs=>?_))
 refine lL hs [.v 2 (.int .i64 0)] (lN (CG.seq (cSL (lL hs [.v 6 (.pointer (some ⟨b1,0,none⟩)),.o 7 (.slice A ts.length cap) 0 0 1,.v 8 (.int .i64 (ts.length:Nat))] ?_))))
 cases hb4:(decide (((ts.length:Nat):Int)<(1:Int)))
 ·
  have phb4:=oF hb4
  refine lB 9 hb4 ?_
  refine lL hs [.m 10 9,.v 11 (.pointer (some ⟨b1,0,none⟩)),.o 12 (.slice A ts.length cap) 0 0 1,.v 13 (.int .i64 (ts.length:Nat))] ?_
  cases hb5:(decide ((4:Int)<((ts.length:Nat):Int)))
  ·
   have phb5:=oF hb5
   refine lB 14 hb5 ?_
   refine lL hs [.v 15 (.bool false)] (lN (cIF (CG.skipN (cSL (lL hs [.v 3 (.int .i64 0)] (lN (CG.seq (cSL (lL hs [.v 4 (.int .i64 0)] (lN (CG.block (cTo [(1,.pointer (some ⟨b1,0,none⟩)),(4,.int .i64 0),(3,.int .i64 0)] ?_))))))))))))
   refine CG.loop (fun μ_ Γ w_=>∃ (k:Nat) (wd:Nat) (h_:Hp),μ_=ls.length-k∧Γ=[(1,.pointer (some ⟨b1,0,none⟩)),(4,.int .i64 (k:Nat)),(3,.int .i64 (wd:Nat))]∧SS w h w_ h_ [⟨b1,49,[.slice A ts.length cap]⟩] [] [fun h_=>RNetL h_ ts ls,fun h_=>SlO 3 lvc lvd h_ A ts]∧(k≤ls.length)∧(0<k→wd=(ls.getD (k-1) lay0).W.length)∧(chkq ls=chkFrom ls k (ls.length-k))) _ ⟨0,0,h3,rfl,rfl,hs.to _ _,Nat.zero_le _,fun h_=>absurd h_ (Nat.lt_irrefl 0),chk_start oM⟩ ?_
   rintro _ _ w6 ⟨k,wd,h7,hm8,rfl,hs,hk,hwd,hi⟩
   refine CG.seq (cSL (lL hs [.m 16 4,.v 17 (.pointer (some ⟨b1,0,none⟩)),.o 18 (.slice A ts.length cap) 0 0 1,.v 19 (.int .i64 (ts.length:Nat))] ?_))
   cases hb9:(decide (((k:Nat):Int)<((ts.length:Nat):Int)))
   ·
    have phb9:=oF hb9
    refine lB 20 hb9 ?_
    refine lN (cIF (CG.exit ?_))
    show CG _ _ _ _ _ _ _ _
    exact cSL (lL hs [.v 2 (.int .i64 0)] (lN (CG.ret (hs.ret [] (.int .i64 0) (chk_end hi oM)))))
   have phb9:=oT hb9
   refine lB 20 hb9 ?_
   refine lN (cIT (CG.skipN (CG.seq (CG.block (cSL (lL hs [.v 23 (.pointer (some ⟨b1,0,none⟩)),.o 24 (.slice A ts.length cap) 0 0 1,.m 25 4] (lX 26 A ts.length cap 3 (k:Nat) k ((hs.f.2.1).ok oM) ?_)))))))
   obtain ⟨ekx,⟨AWx,cWx,usx,eWx,hcWx,hAWx,hTWx⟩,⟨ABx,cBx,rsx,eBx,hcBx,hABx,hTBx⟩⟩:=(hs.f.1).at_ k oM
   replace hs:=((((hs.a_SlO hAWx).add (K:=fun h_=>RVs h_ usx (ls.getD k lay0).W) hTWx).a_SlO hABx).add (K:=fun h_=>RTs h_ rsx (ls.getD k lay0).B) hTBx)
   refine lHe 27 (.agg #[.int .i64 ((ts.getD k lvd).1),(ts.getD k lvd).2.1,(ts.getD k lvd).2.2]) hs ((hs.f.2.2.2.2.2.1).el k oM) (by rw[ekx,eWx,eBx]) ?_
   have lux:=(hs.f.2.2.1).len;have lbx2:=(hs.f.1).len
   refine lA 5 168 ([.int .i64 0,.slice none 0 0,.slice none 0 0]) hs (fun b10 w11 h12 hs=>?_)
   refine lP 0 0 ([.int .i64 ((ls.getD k lay0).k),.slice AWx usx.length cWx,.slice ABx rsx.length cBx]) hs (fun w13 hs=>?_)
   refine lN (CG.seq (cSL (lL hs [.v 28 (.pointer (some ⟨b10,1,none⟩)),.o 29 (.slice AWx usx.length cWx) 0 1 1] (lC 30 hs (rRightG AWx cWx usx (ls.getD k lay0).W (hF k oM).rl (hF k oM).rls _ _ hs.g (hs.f.2.2.2.1) (hs.f.2.2.1)) ?_))))
   rintro _ w14 h15 hs rfl
   cases hb16:(rightq (ls.getD k lay0).W)
   ·
    have phb16:=rq_not hb16
    refine lL hs [.v 31 (.bool true),.m 32 31] (lG 33 ?_)
    refine lG 34 ?_
    refine lG 35 ?_
    refine lG 36 ?_
    refine lL hs [.v 37 (.bool true),.m 38 37] (lG 39 ?_)
    refine lG 40 ?_
    refine lG 41 ?_
    refine lG 42 ?_
    refine lG 43 ?_
    refine lG 44 ?_
    refine lG 45 ?_
    refine lG 46 ?_
    refine lG 47 ?_
    refine lG 48 ?_
    refine lL hs [.v 49 (.bool true),.m 50 49] (lG 51 ?_)
    refine lG 52 ?_
    refine lG 53 ?_
    refine lG 54 ?_
    refine lG 55 ?_
    refine lG 56 ?_
    refine lG 57 ?_
    refine lG 58 ?_
    refine lG 59 ?_
    refine lG 60 ?_
    refine lG 61 ?_
    refine lL hs [.v 62 (.bool true),.m 63 62] (lG 64 ?_)
    refine lG 65 ?_
    refine lG 66 ?_
    refine lG 67 ?_
    refine lG 68 ?_
    refine lG 69 ?_
    refine lG 70 ?_
    refine lL hs [.v 71 (.bool true)] (lN (cTo [(1,.pointer (some ⟨b1,0,none⟩)),(4,.int .i64 (k:Nat)),(3,.int .i64 (wd:Nat)),(5,.pointer (some ⟨b10,0,none⟩)),(71,.bool true)] ?_))
    exact cIT (cSL (lL hs [.v 2 (.int .i64 5)] (lN (CG.ret (hs.ret [] (.int .i64 5) (chk_bad hi oM (fun ⟨f1,f2,f3,f4,f5⟩=>by first|exact absurd f1 aM|omega|(have:=f4 oM;omega)|(have:=f5 oM;omega)|(have:=hwd oM;have:=f5 oM;omega))))))))
   have phb16:=rq_is hb16
   refine lL hs [.v 31 (.bool false),.m 32 31] ?_
   obtain ⟨hr1,hr2,hr3⟩:=‹RightP (ls.getD k lay0).W›
   refine lL hs [.v 33 (.pointer (some ⟨b10,1,none⟩)),.o 34 (.slice AWx usx.length cWx) 0 1 1,.v 35 (.int .i64 (usx.length:Nat))] ?_
   cases hb17:(decide ((12:Int)<((usx.length:Nat):Int)))
   ·
    have phb17:=oF hb17
    refine lB 36 hb17 ?_
    refine lL hs [.v 37 (.bool false),.m 38 37,.m 39 4] ?_
    cases hb18:(((k:Nat):Int) == (0:Int))
    ·
     have phb18:=neOfBeq hb18
     refine lB 40 hb18 ?_
     refine lL hs [.m 41 40] (lG 42 ?_)
     refine lG 43 ?_
     refine lG 44 ?_
     refine lG 45 ?_
     refine lG 46 ?_
     refine lG 47 ?_
     refine lL hs [.v 48 (.bool false),.v 49 (.bool false),.m 50 49,.m 51 4] ?_
     cases hb19:(decide ((0:Int)<((k:Nat):Int)))
     ·
      have phb19:=oF hb19
      refine lB 52 hb19 ?_
      refine lL hs [.m 53 52] (lG 54 ?_)
      refine lG 55 ?_
      refine lG 56 ?_
      refine lG 57 ?_
      refine lG 58 ?_
      refine lG 59 ?_
      refine lG 60 ?_
      refine lL hs [.v 61 (.bool false),.v 62 (.bool false),.m 63 62,.v 64 (.pointer (some ⟨b10,2,none⟩)),.o 65 (.slice ABx rsx.length cBx) 0 2 1,.v 66 (.int .i64 (rsx.length:Nat)),.v 67 (.pointer (some ⟨b10,1,none⟩)),.o 68 (.slice AWx usx.length cWx) 0 1 1,.v 69 (.int .i64 (usx.length:Nat))] ?_
      cases hb20:(((rsx.length:Nat):Int) != ((usx.length:Nat):Int))
      ·
       have phb20:=eqOfBne hb20
       refine lB 70 hb20 ?_
       refine lL hs [.v 71 (.bool false)] (lN (cTo [(1,.pointer (some ⟨b1,0,none⟩)),(4,.int .i64 (k:Nat)),(3,.int .i64 (wd:Nat)),(5,.pointer (some ⟨b10,0,none⟩)),(71,.bool false)] ?_))
       refine cIF (CG.skipN (CG.seq (cSL (lL hs [.v 72 (.pointer (some ⟨b10,0,none⟩)),.o 73 (.int .i64 ((ls.getD k lay0).k)) 0 0 1] ?_))))
       cases hb21:(decide (((ls.getD k lay0).k:Int)<(1:Int)))
       ·
        have phb21:=oF hb21
        refine lB 74 hb21 ?_
        refine lL hs [.m 75 74,.v 76 (.pointer (some ⟨b10,0,none⟩)),.o 77 (.int .i64 ((ls.getD k lay0).k)) 0 0 1] ?_
        cases hb22:(decide ((3:Int)<((ls.getD k lay0).k:Int)))
        ·
         have phb22:=oF hb22
         refine lB 78 hb22 ?_
         refine lL hs [.v 79 (.bool false)] (lN (cIF (CG.skipN (CG.listed (lL hs [.v 80 (.pointer (some ⟨b10,1,none⟩)),.o 81 (.slice AWx usx.length cWx) 0 1 1,.v 82 (.int .i64 (usx.length:Nat)),.m 3 82] (lN (CG.listed (lL hs [.m 21 4] (lIn 22 ((k:Nat)+1) (k+1) ?_)))))))))
         refine lL hs [.m 4 22] (lD ?_)
         intro a_ ka
         have q23:(k+1)≤ls.length:=by omega
         have q24:0<(k+1)→usx.length=(ls.getD ((k+1)-1) lay0).W.length:=fun _=>by rw[Nat.add_sub_cancel];omega
         have q25:chkq ls=chkFrom ls (k+1) (ls.length-(k+1)):=chk_step hi oM ⟨‹RightP _›,by omega,by omega,fun _=>by omega,fun h_=>by have:=hwd h_;omega⟩ (show 1≤_∧_≤3 by omega)
         replace hs:=hs.tl.tl.tl.tl
         replace hs:=hs.drop 1 0
         refine ⟨_,_,?_,⟨k+1,usx.length,h15,rfl,rfl,hs.to _ _,q23,q24,q25⟩,ka.to [(1,.pointer (some ⟨b1,0,none⟩)),(4,.int .i64 ((k+1):Nat)),(3,.int .i64 (usx.length:Nat))] kR⟩
         omega
        have phb22:=oT hb22
        refine lB 78 hb22 ?_
        exact lL hs [.v 79 (.bool true)] (lN (cIT (cSL (lL hs [.v 2 (.int .i64 10)] (lN (CG.ret (hs.ret [] (.int .i64 10) (chk_kind hi oM (⟨‹RightP _›,by omega,by omega,fun _=>by omega,fun h_=>by first|omega|(have:=hwd h_;omega)⟩) (by first|assumption|(intro h_;have h1_:=h_.1;have h2_:=h_.2;omega))))))))))
       have phb21:=oT hb21
       refine lB 74 hb21 ?_
       refine lL hs [.m 75 74] (lG 76 ?_)
       refine lG 77 ?_
       refine lG 78 ?_
       exact lL hs [.v 79 (.bool true)] (lN (cIT (cSL (lL hs [.v 2 (.int .i64 10)] (lN (CG.ret (hs.ret [] (.int .i64 10) (chk_kind hi oM (⟨‹RightP _›,by omega,by omega,fun _=>by omega,fun h_=>by first|omega|(have:=hwd h_;omega)⟩) (by first|assumption|(intro h_;have h1_:=h_.1;have h2_:=h_.2;omega))))))))))
      have phb20:=neOfBne hb20
      refine lB 70 hb20 ?_
      refine lL hs [.v 71 (.bool true)] (lN (cTo [(1,.pointer (some ⟨b1,0,none⟩)),(4,.int .i64 (k:Nat)),(3,.int .i64 (wd:Nat)),(5,.pointer (some ⟨b10,0,none⟩)),(71,.bool true)] ?_))
      exact cIT (cSL (lL hs [.v 2 (.int .i64 5)] (lN (CG.ret (hs.ret [] (.int .i64 5) (chk_bad hi oM (fun ⟨f1,f2,f3,f4,f5⟩=>by first|exact absurd f1 aM|omega|(have:=f4 oM;omega)|(have:=f5 oM;omega)|(have:=hwd oM;have:=f5 oM;omega))))))))
     have phb19:=oT hb19
     refine lB 52 hb19 ?_
     refine lL hs [.m 53 52,.v 54 (.pointer (some ⟨b10,1,none⟩)),.o 55 (.slice AWx usx.length cWx) 0 1 1] (lX 56 AWx usx.length cWx 1 0 0 ((hs.f.2.2.2.1).ok oM) ?_)
     obtain ⟨Arq,crq,trq,erq,hcrq,hRrq,hTrq⟩:=(hs.f.2.2.1).at_ 0 oM
     have hlrq:=hTrq.len
     replace hs:=((hs.a_SlO hRrq).add (K:=fun h_=>RTs h_ trq (((ls.getD k lay0).W).getD 0 [])) hTrq)
     refine lHe 57 (usx.getD 0 undef) hs ((hs.f.2.2.2.2.2.1).el 0 oM) erq ?_
     refine lL hs [.v 58 (.int .i64 (trq.length:Nat)),.m 59 3] ?_
     cases hb26:(((trq.length:Nat):Int) != ((wd:Nat):Int))
     ·
      have phb26:=eqOfBne hb26
      refine lB 60 hb26 ?_
      refine lL hs [.v 61 (.bool false),.v 62 (.bool false),.m 63 62,.v 64 (.pointer (some ⟨b10,2,none⟩)),.o 65 (.slice ABx rsx.length cBx) 0 2 1,.v 66 (.int .i64 (rsx.length:Nat)),.v 67 (.pointer (some ⟨b10,1,none⟩)),.o 68 (.slice AWx usx.length cWx) 0 1 1,.v 69 (.int .i64 (usx.length:Nat))] ?_
      cases hb27:(((rsx.length:Nat):Int) != ((usx.length:Nat):Int))
      ·
       have phb27:=eqOfBne hb27
       refine lB 70 hb27 ?_
       refine lL hs [.v 71 (.bool false)] (lN (cTo [(1,.pointer (some ⟨b1,0,none⟩)),(4,.int .i64 (k:Nat)),(3,.int .i64 (wd:Nat)),(5,.pointer (some ⟨b10,0,none⟩)),(71,.bool false)] ?_))
       refine cIF (CG.skipN (CG.seq (cSL (lL hs [.v 72 (.pointer (some ⟨b10,0,none⟩)),.o 73 (.int .i64 ((ls.getD k lay0).k)) 0 0 1] ?_))))
       cases hb28:(decide (((ls.getD k lay0).k:Int)<(1:Int)))
       ·
        have phb28:=oF hb28
        refine lB 74 hb28 ?_
        refine lL hs [.m 75 74,.v 76 (.pointer (some ⟨b10,0,none⟩)),.o 77 (.int .i64 ((ls.getD k lay0).k)) 0 0 1] ?_
        cases hb29:(decide ((3:Int)<((ls.getD k lay0).k:Int)))
        ·
         have phb29:=oF hb29
         refine lB 78 hb29 ?_
         refine lL hs [.v 79 (.bool false)] (lN (cIF (CG.skipN (CG.listed (lL hs [.v 80 (.pointer (some ⟨b10,1,none⟩)),.o 81 (.slice AWx usx.length cWx) 0 1 1,.v 82 (.int .i64 (usx.length:Nat)),.m 3 82] (lN (CG.listed (lL hs [.m 21 4] (lIn 22 ((k:Nat)+1) (k+1) ?_)))))))))
         refine lL hs [.m 4 22] (lD ?_)
         intro a_ ka
         have q30:(k+1)≤ls.length:=by omega
         have q31:0<(k+1)→usx.length=(ls.getD ((k+1)-1) lay0).W.length:=fun _=>by rw[Nat.add_sub_cancel];omega
         have q32:chkq ls=chkFrom ls (k+1) (ls.length-(k+1)):=chk_step hi oM ⟨‹RightP _›,by omega,by omega,fun _=>by omega,fun h_=>by have:=hwd h_;omega⟩ (show 1≤_∧_≤3 by omega)
         replace hs:=hs.tl.tl.tl.tl.tl.tl
         replace hs:=hs.drop 1 0
         refine ⟨_,_,?_,⟨k+1,usx.length,h15,rfl,rfl,hs.to _ _,q30,q31,q32⟩,ka.to [(1,.pointer (some ⟨b1,0,none⟩)),(4,.int .i64 ((k+1):Nat)),(3,.int .i64 (usx.length:Nat))] kR⟩
         omega
        have phb29:=oT hb29
        refine lB 78 hb29 ?_
        exact lL hs [.v 79 (.bool true)] (lN (cIT (cSL (lL hs [.v 2 (.int .i64 10)] (lN (CG.ret (hs.ret [] (.int .i64 10) (chk_kind hi oM (⟨‹RightP _›,by omega,by omega,fun _=>by omega,fun h_=>by first|omega|(have:=hwd h_;omega)⟩) (by first|assumption|(intro h_;have h1_:=h_.1;have h2_:=h_.2;omega))))))))))
       have phb28:=oT hb28
       refine lB 74 hb28 ?_
       refine lL hs [.m 75 74] (lG 76 ?_)
       refine lG 77 ?_
       refine lG 78 ?_
       exact lL hs [.v 79 (.bool true)] (lN (cIT (cSL (lL hs [.v 2 (.int .i64 10)] (lN (CG.ret (hs.ret [] (.int .i64 10) (chk_kind hi oM (⟨‹RightP _›,by omega,by omega,fun _=>by omega,fun h_=>by first|omega|(have:=hwd h_;omega)⟩) (by first|assumption|(intro h_;have h1_:=h_.1;have h2_:=h_.2;omega))))))))))
      have phb27:=neOfBne hb27
      refine lB 70 hb27 ?_
      refine lL hs [.v 71 (.bool true)] (lN (cTo [(1,.pointer (some ⟨b1,0,none⟩)),(4,.int .i64 (k:Nat)),(3,.int .i64 (wd:Nat)),(5,.pointer (some ⟨b10,0,none⟩)),(71,.bool true)] ?_))
      exact cIT (cSL (lL hs [.v 2 (.int .i64 5)] (lN (CG.ret (hs.ret [] (.int .i64 5) (chk_bad hi oM (fun ⟨f1,f2,f3,f4,f5⟩=>by first|exact absurd f1 aM|omega|(have:=f4 oM;omega)|(have:=f5 oM;omega)|(have:=hwd oM;have:=f5 oM;omega))))))))
     have phb26:=neOfBne hb26
     refine lB 60 hb26 ?_
     refine lL hs [.v 61 (.bool true),.v 62 (.bool true),.m 63 62] (lG 64 ?_)
     refine lG 65 ?_
     refine lG 66 ?_
     refine lG 67 ?_
     refine lG 68 ?_
     refine lG 69 ?_
     refine lG 70 ?_
     refine lL hs [.v 71 (.bool true)] (lN (cTo [(1,.pointer (some ⟨b1,0,none⟩)),(4,.int .i64 (k:Nat)),(3,.int .i64 (wd:Nat)),(5,.pointer (some ⟨b10,0,none⟩)),(71,.bool true)] ?_))
     exact cIT (cSL (lL hs [.v 2 (.int .i64 5)] (lN (CG.ret (hs.ret [] (.int .i64 5) (chk_bad hi oM (fun ⟨f1,f2,f3,f4,f5⟩=>by first|exact absurd f1 aM|omega|(have:=f4 oM;omega)|(have:=f5 oM;omega)|(have:=hwd oM;have:=f5 oM;omega))))))))
    have phb18:=eq_of_beq hb18
    refine lB 40 hb18 ?_
    refine lL hs [.m 41 40,.v 42 (.pointer (some ⟨b10,1,none⟩)),.o 43 (.slice AWx usx.length cWx) 0 1 1] (lX 44 AWx usx.length cWx 1 0 0 ((hs.f.2.2.2.1).ok oM) ?_)
    obtain ⟨Arp,crp,trp,erp,hcrp,hRrp,hTrp⟩:=(hs.f.2.2.1).at_ 0 oM
    have hlrp:=hTrp.len
    replace hs:=((hs.a_SlO hRrp).add (K:=fun h_=>RTs h_ trp (((ls.getD k lay0).W).getD 0 [])) hTrp)
    refine lHe 45 (usx.getD 0 undef) hs ((hs.f.2.2.2.2.2.1).el 0 oM) erp ?_
    refine lL hs [.v 46 (.int .i64 (trp.length:Nat))] ?_
    cases hb33:(decide ((20:Int)<((trp.length:Nat):Int)))
    ·
     have phb33:=oF hb33
     refine lB 47 hb33 ?_
     refine lL hs [.v 48 (.bool false),.v 49 (.bool false),.m 50 49,.m 51 4] ?_
     have ⟨hb34,phb34⟩:=dF (p:=(0:Int)<((k:Nat):Int)) oM
     refine lB 52 hb34 ?_
     refine lL hs [.m 53 52] (lG 54 ?_)
     refine lG 55 ?_
     refine lG 56 ?_
     refine lG 57 ?_
     refine lG 58 ?_
     refine lG 59 ?_
     refine lG 60 ?_
     refine lL hs [.v 61 (.bool false),.v 62 (.bool false),.m 63 62,.v 64 (.pointer (some ⟨b10,2,none⟩)),.o 65 (.slice ABx rsx.length cBx) 0 2 1,.v 66 (.int .i64 (rsx.length:Nat)),.v 67 (.pointer (some ⟨b10,1,none⟩)),.o 68 (.slice AWx usx.length cWx) 0 1 1,.v 69 (.int .i64 (usx.length:Nat))] ?_
     cases hb35:(((rsx.length:Nat):Int) != ((usx.length:Nat):Int))
     ·
      have phb35:=eqOfBne hb35
      refine lB 70 hb35 ?_
      refine lL hs [.v 71 (.bool false)] (lN (cTo [(1,.pointer (some ⟨b1,0,none⟩)),(4,.int .i64 (k:Nat)),(3,.int .i64 (wd:Nat)),(5,.pointer (some ⟨b10,0,none⟩)),(71,.bool false)] ?_))
      refine cIF (CG.skipN (CG.seq (cSL (lL hs [.v 72 (.pointer (some ⟨b10,0,none⟩)),.o 73 (.int .i64 ((ls.getD k lay0).k)) 0 0 1] ?_))))
      cases hb36:(decide (((ls.getD k lay0).k:Int)<(1:Int)))
      ·
       have phb36:=oF hb36
       refine lB 74 hb36 ?_
       refine lL hs [.m 75 74,.v 76 (.pointer (some ⟨b10,0,none⟩)),.o 77 (.int .i64 ((ls.getD k lay0).k)) 0 0 1] ?_
       cases hb37:(decide ((3:Int)<((ls.getD k lay0).k:Int)))
       ·
        have phb37:=oF hb37
        refine lB 78 hb37 ?_
        refine lL hs [.v 79 (.bool false)] (lN (cIF (CG.skipN (CG.listed (lL hs [.v 80 (.pointer (some ⟨b10,1,none⟩)),.o 81 (.slice AWx usx.length cWx) 0 1 1,.v 82 (.int .i64 (usx.length:Nat)),.m 3 82] (lN (CG.listed (lL hs [.m 21 4] (lIn 22 ((k:Nat)+1) (k+1) ?_)))))))))
        refine lL hs [.m 4 22] (lD ?_)
        intro a_ ka
        have q38:(k+1)≤ls.length:=by omega
        have q39:0<(k+1)→usx.length=(ls.getD ((k+1)-1) lay0).W.length:=fun _=>by rw[Nat.add_sub_cancel];omega
        have q40:chkq ls=chkFrom ls (k+1) (ls.length-(k+1)):=chk_step hi oM ⟨‹RightP _›,by omega,by omega,fun _=>by omega,fun h_=>by have:=hwd h_;omega⟩ (show 1≤_∧_≤3 by omega)
        replace hs:=hs.tl.tl.tl.tl.tl.tl
        replace hs:=hs.drop 1 0
        refine ⟨_,_,?_,⟨k+1,usx.length,h15,rfl,rfl,hs.to _ _,q38,q39,q40⟩,ka.to [(1,.pointer (some ⟨b1,0,none⟩)),(4,.int .i64 ((k+1):Nat)),(3,.int .i64 (usx.length:Nat))] kR⟩
        omega
       have phb37:=oT hb37
       refine lB 78 hb37 ?_
       exact lL hs [.v 79 (.bool true)] (lN (cIT (cSL (lL hs [.v 2 (.int .i64 10)] (lN (CG.ret (hs.ret [] (.int .i64 10) (chk_kind hi oM (⟨‹RightP _›,by omega,by omega,fun _=>by omega,fun h_=>by first|omega|(have:=hwd h_;omega)⟩) (by first|assumption|(intro h_;have h1_:=h_.1;have h2_:=h_.2;omega))))))))))
      have phb36:=oT hb36
      refine lB 74 hb36 ?_
      refine lL hs [.m 75 74] (lG 76 ?_)
      refine lG 77 ?_
      refine lG 78 ?_
      exact lL hs [.v 79 (.bool true)] (lN (cIT (cSL (lL hs [.v 2 (.int .i64 10)] (lN (CG.ret (hs.ret [] (.int .i64 10) (chk_kind hi oM (⟨‹RightP _›,by omega,by omega,fun _=>by omega,fun h_=>by first|omega|(have:=hwd h_;omega)⟩) (by first|assumption|(intro h_;have h1_:=h_.1;have h2_:=h_.2;omega))))))))))
     have phb35:=neOfBne hb35
     refine lB 70 hb35 ?_
     refine lL hs [.v 71 (.bool true)] (lN (cTo [(1,.pointer (some ⟨b1,0,none⟩)),(4,.int .i64 (k:Nat)),(3,.int .i64 (wd:Nat)),(5,.pointer (some ⟨b10,0,none⟩)),(71,.bool true)] ?_))
     exact cIT (cSL (lL hs [.v 2 (.int .i64 5)] (lN (CG.ret (hs.ret [] (.int .i64 5) (chk_bad hi oM (fun ⟨f1,f2,f3,f4,f5⟩=>by first|exact absurd f1 aM|omega|(have:=f4 oM;omega)|(have:=f5 oM;omega)|(have:=hwd oM;have:=f5 oM;omega))))))))
    have phb33:=oT hb33
    refine lB 47 hb33 ?_
    refine lL hs [.v 48 (.bool true),.v 49 (.bool true),.m 50 49] (lG 51 ?_)
    refine lG 52 ?_
    refine lG 53 ?_
    refine lG 54 ?_
    refine lG 55 ?_
    refine lG 56 ?_
    refine lG 57 ?_
    refine lG 58 ?_
    refine lG 59 ?_
    refine lG 60 ?_
    refine lG 61 ?_
    refine lL hs [.v 62 (.bool true),.m 63 62] (lG 64 ?_)
    refine lG 65 ?_
    refine lG 66 ?_
    refine lG 67 ?_
    refine lG 68 ?_
    refine lG 69 ?_
    refine lG 70 ?_
    refine lL hs [.v 71 (.bool true)] (lN (cTo [(1,.pointer (some ⟨b1,0,none⟩)),(4,.int .i64 (k:Nat)),(3,.int .i64 (wd:Nat)),(5,.pointer (some ⟨b10,0,none⟩)),(71,.bool true)] ?_))
    exact cIT (cSL (lL hs [.v 2 (.int .i64 5)] (lN (CG.ret (hs.ret [] (.int .i64 5) (chk_bad hi oM (fun ⟨f1,f2,f3,f4,f5⟩=>by first|exact absurd f1 aM|omega|(have:=f4 oM;omega)|(have:=f5 oM;omega)|(have:=hwd oM;have:=f5 oM;omega))))))))
   have phb17:=oT hb17
   refine lB 36 hb17 ?_
   refine lL hs [.v 37 (.bool true),.m 38 37] (lG 39 ?_)
   refine lG 40 ?_
   refine lG 41 ?_
   refine lG 42 ?_
   refine lG 43 ?_
   refine lG 44 ?_
   refine lG 45 ?_
   refine lG 46 ?_
   refine lG 47 ?_
   refine lG 48 ?_
   refine lL hs [.v 49 (.bool true),.m 50 49] (lG 51 ?_)
   refine lG 52 ?_
   refine lG 53 ?_
   refine lG 54 ?_
   refine lG 55 ?_
   refine lG 56 ?_
   refine lG 57 ?_
   refine lG 58 ?_
   refine lG 59 ?_
   refine lG 60 ?_
   refine lG 61 ?_
   refine lL hs [.v 62 (.bool true),.m 63 62] (lG 64 ?_)
   refine lG 65 ?_
   refine lG 66 ?_
   refine lG 67 ?_
   refine lG 68 ?_
   refine lG 69 ?_
   refine lG 70 ?_
   refine lL hs [.v 71 (.bool true)] (lN (cTo [(1,.pointer (some ⟨b1,0,none⟩)),(4,.int .i64 (k:Nat)),(3,.int .i64 (wd:Nat)),(5,.pointer (some ⟨b10,0,none⟩)),(71,.bool true)] ?_))
   exact cIT (cSL (lL hs [.v 2 (.int .i64 5)] (lN (CG.ret (hs.ret [] (.int .i64 5) (chk_bad hi oM (fun ⟨f1,f2,f3,f4,f5⟩=>by first|exact absurd f1 aM|omega|(have:=f4 oM;omega)|(have:=f5 oM;omega)|(have:=hwd oM;have:=f5 oM;omega))))))))
  have phb5:=oT hb5
  refine lB 14 hb5 ?_
  exact lL hs [.v 15 (.bool true)] (lN (cIT (cSL (lL hs [.v 2 (.int .i64 5)] (lN (CG.ret (hs.ret [] (.int .i64 5) (chk_len oM))))))))
 have phb4:=oT hb4
 refine lB 9 hb4 ?_
 refine lL hs [.m 10 9] (lG 11 ?_)
 refine lG 12 ?_
 refine lG 13 ?_
 refine lG 14 ?_
 exact lL hs [.v 15 (.bool true)] (lN (cIT (cSL (lL hs [.v 2 (.int .i64 5)] (lN (CG.ret (hs.ret [] (.int .i64 5) (chk_len oM))))))))
structure Mat (W:List (List Rat)) (r c:Nat):Prop where
  rows:W.length=r
  rpos:0<r
  cpos:0<c
  row:∀ i,i<r→(W.getD i []).length=c
structure Net3 (ls:List Lay) (d:Nat→Nat):Prop where
  len:1≤ls.length∧ls.length≤4
  first:d 0≤20
  lay:∀ i,i<ls.length→Mat (ls.getD i lay0).W (d (i+1)) (d i)∧(ls.getD i lay0).B.length=d (i+1)∧d (i+1)≤12∧((ls.getD i lay0).k=1∨(ls.getD i lay0).k=2∨(ls.getD i lay0).k=3)
theorem Net3.small {ls:List Lay}{d:Nat→Nat}(o:Net3 ls d)(i:Nat)(h:i<ls.length):d i≤20:=by
  cases i with
  | zero=>exact o.first
  | succ i=>have:=(o.lay i oM).2.2.1;omega
theorem one_abs_pos (u:Rat):0<((1:Int):Rat)+qabs u:=by
  have h:(0:Rat)≤qabs u:=by rw[←Rat.num_nonneg,qabs_num];omega
  have h1:(0:Rat)<((1:Int):Rat):=by decide
  grind
theorem one_abs_ne (u:Rat):(((1:Int):Rat)+qabs u).num≠0:=by
  have:=one_abs_pos u
  intro e
  have e2:((1:Int):Rat)+qabs u=0:=by rw[←Rat.num_eq_zero];exact e
  rw[e2] at this;exact absurd this kD
def act (k:Int)(u:Rat):Rat:=if k=2 then maxR u 0 else if k=3 then u/(((1:Int):Rat)+qabs u) else u
theorem LQ.act {m:Nat}{u:Rat}(k:Int)(h:LQ m u)(hm:0<m):LQ (2*m+2) (act k u):=by
  unfold Go.Proofs.YtphakaomkmhbaaaGreatDoor.act
  split
  · exact (LQ.maxR h ((LQ.lit (z:=0) kD).mono oM)).mono oM
  · split
    · exact (h.div ((LQ.lit (z:=1) kD).add h.abs)).mono oM
    · exact h.mono oM
def layq (L:Lay)(x:List Rat):List Rat:=(List.range L.W.length).map fun i=>act L.k (dotq (L.W.getD i []) x x.length+L.B.getD i 0)
def outq (ls:List Lay)(xs:List Rat):Nat→List Rat
  | 0=>xs
  | k+1=>layq (ls.getD k lay0) (outq ls xs k)
theorem outq_len {ls:List Lay}{d:Nat→Nat}(o:Net3 ls d){xs:List Rat}(hx:xs.length=d 0)(k:Nat)(hk:k≤ls.length):(outq ls xs k).length=d k:=by
  cases k with
  | zero=>exact hx
  | succ k=>show (layq _ _).length=_;unfold layq;rw[List.length_map,List.length_range];exact (o.lay k oM).1.rows
structure NetB (ls:List Lay) (xs:List Rat):Prop where
  w:∀ k i j,LQ 1000000 (((ls.getD k lay0).W.getD i []).getD j 0)
  b:∀ k i,LQ 1000000 ((ls.getD k lay0).B.getD i 0)
  x:∀ k,k≤ls.length→∀ j,LQ 1000000 ((outq ls xs k).getD j 0)
theorem getD_set_self {l:List Rat}{i:Nat}{x:Rat}(h:i<l.length):(l.set i x).getD i 0=x:=by
  rw[List.getD_eq_getElem?_getD,List.getElem?_set_self h];rfl
theorem fstep {pl:List Rat}{f:Nat→Rat}{i:Nat}{x:Rat}(hp:∀ j,j<i→pl.getD j 0=f j)(hi:i<pl.length)(hx:x=f i):∀ j,j<i+1→(pl.set i x).getD j 0=f j:=by
  intro j hj
  by_cases e:j=i
  · subst e;rw[getD_set_self hi,hx]
  · rw[List.getD_eq_getElem?_getD,List.getElem?_set_ne (Ne.symm e),←List.getD_eq_getElem?_getD];exact hp j oM
theorem dot_b1 {n:Nat}(h:n≤20):n*(1000000+1000000+1)+1000000+1000000+2≤100000000:=by rw[Nat.mul_comm n];omega
theorem dot_b2 {n:Nat}(h:n≤20):n*(1000000+1000000+1)+1≤41000000:=by rw[Nat.mul_comm n];omega
theorem map_of {pl:List Rat}{f:Nat→Rat}{i n:Nat}(hp:∀ j,j<i→pl.getD j 0=f j)(hi:i=n)(hl:pl.length=n):pl=(List.range n).map f:=by
  subst hi
  refine List.ext_getElem (by simp[hl]) (fun j h1 h2=>?_)
  have:=hp j oM
  rw[List.getD_eq_getElem?_getD,List.getElem?_eq_getElem h1] at this
  simp only[List.getElem_map,List.getElem_range]
  exact this
def sumq (L:Lay)(x:List Rat):List Rat:=(List.range L.W.length).map fun i=>dotq (L.W.getD i []) x x.length+L.B.getD i 0
def insq (ls:List Lay)(xs:List Rat)(n:Nat):List (List Rat):=(List.range n).map (outq ls xs)
def sumsq (ls:List Lay)(xs:List Rat)(n:Nat):List (List Rat):=(List.range n).map fun k=>sumq (ls.getD k lay0) (outq ls xs k)
theorem insq_succ (ls:List Lay)(xs:List Rat)(n:Nat):insq ls xs (n+1)=insq ls xs n++[outq ls xs n]:=by unfold insq;rw[List.range_succ,List.map_append];rfl
theorem sumsq_succ (ls:List Lay)(xs:List Rat)(n:Nat):sumsq ls xs (n+1)=sumsq ls xs n++[sumq (ls.getD n lay0) (outq ls xs n)]:=by unfold sumsq;rw[List.range_succ,List.map_append];rfl
theorem fDotN (A:Option Addr)(ca:Nat)(a:List Rat)(D:Option Addr)(cd:Nat)(b:List Rat)(n m1 m2:Nat)(h1:a.length=m1)(h2:b.length=m2)(e1:m1=n)(e2:m2=n)(K L:Nat)(hn:n≤1000000)(hb:n*(K+L+1)+K+L+2≤100000000)(ha:∀ i,LQ K (a.getD i 0))(hbb:∀ i,LQ L (b.getD i 0))(w:World)(h:Hp)(g:G w h)(hA:SlO 5 qc 0 h A a)(hD:SlO 5 qc 0 h D b)(tb:Tab h) :
    Calls Tryz.prog 62 #[.slice A m1 ca,.slice D m2 cd] w (Ret w h fun v _=>v=.tuple #[qv (dotq a b n),.bool true]):=by
  subst h1 h2 e1
  exact fDot A ca a D cd b K L e2.symm hn hb (fun i _=>ha i) (fun i _=>hbb i) w h g hA hD tb
theorem nAct1 (u:Rat)(w:World)(h:Hp)(g:G w h) :
    Calls Tryz.prog 177 #[.int .i64 1,qv u] w (Ret w h fun v _=>v=qv u):=by
 have hs:=SS.start g
 refine go Tryz.func177 [(0,.int .i64 1),(1,qv u)] rfl ?_
 refine cSL (lA 3 74 (qc u) hs (fun b1 w2 h3 hs=>?_))
 refine lA 4 74 ([.bool false,.int .u64 0,.string ⟨#[]⟩,.int .u64 0,.string ⟨#[]⟩]) hs (fun b4 w5 h6 hs=>?_)
 refine lN (CG.seq (cSL (lL hs [.m 7 0] (lN (CG.block (cSL (lL hs [.v 9 (.bool false),.m 8 9] (lN (cIF (cSL (lL hs [.v 14 (.bool false),.m 13 14] (lN (cIF (CG.skipN (cSL (lL hs [.o 25 (qv u) 1 0 5] (lP 0 0 (qc u) hs (fun w7 hs=>?_))))))))))))))))))
 exact lN (CG.ret (hs.ret [(0,0,5)] (qv u) rfl))
theorem nAct2 (u:Rat)(hu:LQ 45000000 u)(w:World)(h:Hp)(g:G w h) :
    Calls Tryz.prog 177 #[.int .i64 2,qv u] w (Ret w h fun v _=>v=qv (maxR u 0)):=by
 have hs:=SS.start g
 refine go Tryz.func177 [(0,.int .i64 2),(1,qv u)] rfl ?_
 refine cSL (lA 3 74 (qc u) hs (fun b1 w2 h3 hs=>?_))
 refine lA 4 74 ([.bool false,.int .u64 0,.string ⟨#[]⟩,.int .u64 0,.string ⟨#[]⟩]) hs (fun b4 w5 h6 hs=>?_)
 refine lN (CG.seq (cSL (lL hs [.m 7 0] (lN (CG.block (cSL (lL hs [.v 9 (.bool true),.m 8 9] (lN (cIT (cSL (lL hs [.o 10 (qv u) 1 0 5,.v 11 (qv 0)] (lC 12 hs (fMax u 0 (LQ.mono hu oM) (LQ.mono (LQ.lit (z:=0) kD) oM) _ _ hs.g) ?_))))))))))))
 rintro _ w7 h8 hs rfl
 refine lP 0 0 (qc (maxR u 0)) hs (fun w9 hs=>?_)
 exact lN (CG.ret (hs.ret [(0,0,5)] (qv (maxR u 0)) rfl))
theorem nAct3 (u:Rat)(hu:LQ 45000000 u)(w:World)(h:Hp)(g:G w h)(tb:Tab h) :
    Calls Tryz.prog 177 #[.int .i64 3,qv u] w (Ret w h fun v _=>v=qv (u/(((1:Int):Rat)+qabs u))):=by
 have hs:=SS.start g
 replace hs:=(hs.add (K:=fun h_=>Tab h_) tb)
 refine go Tryz.func177 [(0,.int .i64 3),(1,qv u)] rfl ?_
 refine cSL (lA 3 74 (qc u) hs (fun b1 w2 h3 hs=>?_))
 refine lA 4 74 ([.bool false,.int .u64 0,.string ⟨#[]⟩,.int .u64 0,.string ⟨#[]⟩]) hs (fun b4 w5 h6 hs=>?_)
 refine lN (CG.seq (cSL (lL hs [.m 7 0] (lN (CG.block (cSL (lL hs [.v 9 (.bool false),.m 8 9] (lN (cIF (cSL (lL hs [.v 14 (.bool true),.m 13 14] (lN (cIT (CG.seq ?_))))))))))))))
 have hsr:=hs
 refine cR 10 [⟨9,5,.cells (List.toArray [.bool false,.int .u64 0,.string ⟨#[]⟩,.int .u64 0,.string ⟨#[]⟩]) 74 (0,0)⟩] mixed hs (al_cons (alOk kR (fun _ _=>by kernel_rfl)) al_nil) ?_
 refine eO 0 16 [(1,0,5)] (qv u) hs ?_
 refine eO 2 18 [(1,0,5)] (qv u) hs ?_
 refine eC 1 17 hs (fun _ _ hs=>fOf 1 oM oM _ _ hs.g) ?_
 rintro _ _ _ w7 h8 hs rfl
 have hq9:LQ (45000000) (qabs u):=LQ.abs hu
 refine eC 3 19 hs (fun _ _ hs=>fAbs u (LQ.mono hu oM) _ _ hs.g) ?_
 rintro _ _ _ w10 h11 hs rfl
 have hq12:LQ (1+45000000+1) (((1:Int):Rat)+(qabs u)):=LQ.add (LQ.lit kD) hq9
 refine eC 4 20 hs (fun _ _ hs=>fAdd ((1:Int):Rat) (qabs u) (LQ.mono (LQ.lit kD) oM) (LQ.mono hq9 oM) _ _ hs.g (hs.f.1)) ?_
 rintro _ _ _ w13 h14 hs rfl
 have hq15:LQ (45000000+(1+45000000+1)) (u/(((1:Int):Rat)+(qabs u))):=LQ.div hu hq12
 refine eC 5 21 hs (fun _ _ hs=>fDivN u (((1:Int):Rat)+(qabs u)) (LQ.mono hu oM) (LQ.mono hq12 oM) (one_abs_ne u) _ _ hs.g (hs.f.1)) ?_
 rintro _ _ _ w16 h17 hs rfl
 refine eV 6 15 (.tuple #[qv (u/(((1:Int):Rat)+(qabs u))),.bool true]) ?_
 refine eV 7 22 (qv (u/(((1:Int):Rat)+(qabs u)))) ?_
 refine eV 8 23 (.bool true) ?_
 refine eD1p [] hsr hs 74 [.bool false,.int .u64 0,.string ⟨#[]⟩,.int .u64 0,.string ⟨#[]⟩] (fun w18 h19 b20 hs=>?_)
 refine tP 10 0 0 (qc (u/(((1:Int):Rat)+(qabs u)))) hs (fun w21 hs=>?_)
 refine tV 11 6 (.bool true) ?_
 refine tNS ?_
 refine lL hs [.o 24 (qv (u/(((1:Int):Rat)+(qabs u)))) 0 0 5] (lP 1 0 (qc (u/(((1:Int):Rat)+(qabs u)))) hs (fun w22 hs=>?_))
 exact lN (CG.ret (hs.ret [(1,0,5)] (qv (u/(((1:Int):Rat)+(qabs u)))) rfl))
theorem nAct (k:Int)(hk:k=1∨k=2∨k=3)(u:Rat)(hu:LQ 45000000 u)(w:World)(h:Hp)(g:G w h)(tb:Tab h):Calls Tryz.prog 177 #[.int .i64 k,qv u] w (Ret w h fun v _=>v=qv (act k u)):=by
  rcases hk with rfl|rfl|rfl
  · exact nAct1 u w h g
  · exact nAct2 u hu w h g
  · exact nAct3 u hu w h g tb
theorem nSuitsT (A:Option Addr)(cap:Nat)(ts:List LV)(ls:List Lay)(d:Nat→Nat)(hO:Net3 ls d)(X:Option Addr)(c0:Nat)(xs:List Rat)(hx:xs.length=d 0)(w:World)(h:Hp)(g:G w h)(hA:SlO 3 lvc lvd h A ts)(hN:NetL h ts ls)(hX:SlO 5 qc 0 h X xs) :
    Calls Tryz.prog 102 #[.agg #[.slice A ts.length cap],.slice X xs.length c0] w (Ret w h fun v _=>v=.bool true):=by
 have hs:=SS.start g
 replace hs:=(((hs.a_SlO hA).add (K:=fun h_=>NetL h_ ts ls) hN).a_SlO hX)
 have hl:=(hs.f.2.1).len
 obtain ⟨o1,o2⟩:=hO.len
 have o3:=hO.first
 refine go Tryz.func102 [(0,.agg #[.slice A ts.length cap]),(1,.slice X xs.length c0)] rfl ?_
 refine cSL (lA 2 57 ([.slice A ts.length cap]) hs (fun b1 w2 h3 hs=>?_))
 refine lL hs [.v 4 (.bool false)] (lNS (lL hs [.m 5 1,.v 6 (.int .i64 (xs.length:Nat)),.v 7 (.pointer (some ⟨b1,0,none⟩)),.o 8 (.slice A ts.length cap) 0 0 1] (lX 9 A ts.length cap 3 0 0 ((hs.f.2.2.1).ok oM) ?_)))
 refine lL hs [.v 10 (.pointer (some ⟨(aB A),aO A+0*3+1,none⟩))] ?_
 obtain ⟨ekx,⟨AWx,cWx,usx,eWx,hcWx,hAWx,hUx⟩,⟨ABx,cBx,eBx,hcBx,hABx⟩⟩:=(hs.f.2.1).at_ 0 oM
 obtain ⟨mtx,lbx,r12x,kdx⟩:=hO.lay 0 oM
 have lux:=hUx.len;have mrx:=mtx.rows;have mpx:=mtx.rpos;have mcx:=mtx.cpos;have m0x:=mtx.row 0 oM
 replace hs:=(((hs.a_SlO hAWx).add (K:=fun h_=>QVs h_ usx (ls.getD 0 lay0).W) hUx).a_SlO hABx)
 refine lHe 11 ((ts.getD 0 lvd).2.1) hs (((hs.f.2.2.2.2.2.1).el 0 oM).part 1 1) eWx ?_
 refine lX 12 AWx usx.length cWx 1 0 0 ((hs.f.2.2.1).ok oM) ?_
 obtain ⟨Arp,crp,erp,hcrp,hRrp⟩:=(hs.f.2.1).at_ 0 oM
 replace hs:=(hs.a_SlO hRrp)
 refine lHe 13 (usx.getD 0 undef) hs ((hs.f.2.2.2.1).el 0 oM) erp ?_
 refine lL hs [.v 14 (.int .i64 ((((ls.getD 0 lay0).W).getD 0 []).length:Nat))] ?_
 have hb4:(((xs.length:Nat):Int) == (((((ls.getD 0 lay0).W).getD 0 []).length:Nat):Int))=true:=beqT oM
 have phb4:=eq_of_beq hb4
 refine lB 15 hb4 ?_
 exact lL hs [.m 4 15] (lN (CG.ret (hs.ret [] (.bool true) rfl)))
theorem nSuitsF (A:Option Addr)(cap:Nat)(ts:List LV)(ls:List Lay)(d:Nat→Nat)(hO:Net3 ls d)(X:Option Addr)(c0:Nat)(xs:List Rat)(hx:xs.length≠d 0)(w:World)(h:Hp)(g:G w h)(hA:SlO 3 lvc lvd h A ts)(hN:NetL h ts ls)(hX:SlO 5 qc 0 h X xs) :
    Calls Tryz.prog 102 #[.agg #[.slice A ts.length cap],.slice X xs.length c0] w (Ret w h fun v _=>v=.bool false):=by
 have hs:=SS.start g
 replace hs:=(((hs.a_SlO hA).add (K:=fun h_=>NetL h_ ts ls) hN).a_SlO hX)
 have hl:=(hs.f.2.1).len
 obtain ⟨o1,o2⟩:=hO.len
 have o3:=hO.first
 refine go Tryz.func102 [(0,.agg #[.slice A ts.length cap]),(1,.slice X xs.length c0)] rfl ?_
 refine cSL (lA 2 57 ([.slice A ts.length cap]) hs (fun b1 w2 h3 hs=>?_))
 refine lL hs [.v 4 (.bool false)] (lNS (lL hs [.m 5 1,.v 6 (.int .i64 (xs.length:Nat)),.v 7 (.pointer (some ⟨b1,0,none⟩)),.o 8 (.slice A ts.length cap) 0 0 1] (lX 9 A ts.length cap 3 0 0 ((hs.f.2.2.1).ok oM) ?_)))
 refine lL hs [.v 10 (.pointer (some ⟨(aB A),aO A+0*3+1,none⟩))] ?_
 obtain ⟨ekx,⟨AWx,cWx,usx,eWx,hcWx,hAWx,hUx⟩,⟨ABx,cBx,eBx,hcBx,hABx⟩⟩:=(hs.f.2.1).at_ 0 oM
 obtain ⟨mtx,lbx,r12x,kdx⟩:=hO.lay 0 oM
 have lux:=hUx.len;have mrx:=mtx.rows;have mpx:=mtx.rpos;have mcx:=mtx.cpos;have m0x:=mtx.row 0 oM
 replace hs:=(((hs.a_SlO hAWx).add (K:=fun h_=>QVs h_ usx (ls.getD 0 lay0).W) hUx).a_SlO hABx)
 refine lHe 11 ((ts.getD 0 lvd).2.1) hs (((hs.f.2.2.2.2.2.1).el 0 oM).part 1 1) eWx ?_
 refine lX 12 AWx usx.length cWx 1 0 0 ((hs.f.2.2.1).ok oM) ?_
 obtain ⟨Arp,crp,erp,hcrp,hRrp⟩:=(hs.f.2.1).at_ 0 oM
 replace hs:=(hs.a_SlO hRrp)
 refine lHe 13 (usx.getD 0 undef) hs ((hs.f.2.2.2.1).el 0 oM) erp ?_
 refine lL hs [.v 14 (.int .i64 ((((ls.getD 0 lay0).W).getD 0 []).length:Nat))] ?_
 have hb4:(((xs.length:Nat):Int) == (((((ls.getD 0 lay0).W).getD 0 []).length:Nat):Int))=false:=beqF oM
 have phb4:=neOfBeq hb4
 refine lB 15 hb4 ?_
 exact lL hs [.m 4 15] (lN (CG.ret (hs.ret [] (.bool false) rfl)))
theorem nForward (A:Option Addr)(cap:Nat)(ts:List LV)(ls:List Lay)(d:Nat→Nat)(hO:Net3 ls d)(X:Option Addr)(c0:Nat)(xs:List Rat)(hx:xs.length=d 0)(hc0:xs.length≤c0)(hB:NetB ls xs)(w:World)(h:Hp)(g:G w h)(hA:SlO 3 lvc lvd h A ts)(hN:NetL h ts ls)(hX:SlO 5 qc 0 h X xs)(tb:Tab h) :
    Calls Tryz.prog 103 #[.agg #[.slice A ts.length cap],.slice X xs.length c0] w (Ret w h fun v h1=>∃ A1 c1 u1 A2 c2 u2 Ax cx,v=.agg #[.slice A1 (u1:List Value).length c1,.slice A2 (u2:List Value).length c2,.slice Ax (outq ls xs ls.length).length cx]∧u1.length≤c1∧u2.length≤c2∧(outq ls xs ls.length).length≤cx∧SlO 1 vc undef h1 A1 u1∧SlO 1 vc undef h1 A2 u2∧QVs h1 u1 (insq ls xs ls.length)∧QVs h1 u2 (sumsq ls xs ls.length)∧SlO 5 qc 0 h1 Ax (outq ls xs ls.length)):=by
 have hs:=SS.start g
 replace hs:=((((hs.a_SlO hA).add (K:=fun h_=>NetL h_ ts ls) hN).a_SlO hX).add (K:=fun h_=>Tab h_) tb)
 have hl:=(hs.f.2.2.1).len
 obtain ⟨o1,o2⟩:=hO.len
 have o3:=hO.first
 refine go Tryz.func103 [(0,.agg #[.slice A ts.length cap]),(1,.slice X xs.length c0)] rfl ?_
 refine cSL (lA 2 57 ([.slice A ts.length cap]) hs (fun b1 w2 h3 hs=>?_))
 refine lA 4 175 ([.slice none 0 0,.slice none 0 0,.slice none 0 0]) hs (fun b4 w5 h6 hs=>?_)
 refine lNS (lL hs [.m 14 1,.v 15 (.agg #[.slice none 0 0,.slice none 0 0,.slice X xs.length c0])] (lA 5 175 ([.slice none 0 0,.slice none 0 0,.slice none 0 0]) hs (fun b7 w8 h9 hs=>?_)))
 refine lP 0 0 ([.slice none 0 0,.slice none 0 0,.slice X xs.length c0]) hs (fun w10 hs=>?_)
 refine lN (CG.seq (cSL (lL hs [.v 16 (.pointer (some ⟨b1,0,none⟩)),.o 17 (.slice A ts.length cap) 2 0 1,.v 18 (.int .i64 (ts.length:Nat)),.v 19 (.int .i64 0)] (lN (CG.block ?_)))))
 replace hs:=hs.nil 35 1
 replace hs:=hs.nil 35 1
 refine cTo [(4,.pointer (some ⟨b4,0,none⟩)),(5,.pointer (some ⟨b7,0,none⟩)),(17,.slice A ts.length cap),(18,.int .i64 (ts.length:Nat)),(19,.int .i64 0)] ?_
 replace hs:=hs.add (K:=fun h_=>SlO 5 qc 0 h_ X (outq ls xs 0)) ((hs.f.2.1))
 replace hs:=hs.add (K:=fun h_=>QVs h_ ([]) (sumsq ls xs 0)) (QVs.nil)
 replace hs:=hs.add (K:=fun h_=>QVs h_ ([]) (insq ls xs 0)) (QVs.nil)
 refine CG.loop (fun μ_ Γ w_=>∃ (k:Nat) (s1A:Option Addr) (s1c:Nat) (s2A:Option Addr) (s2c:Nat) (l1:List Value) (l2:List Value) (Ax:Option Addr) (cx:Nat) (h_:Hp),μ_=ls.length-k∧Γ=[(4,.pointer (some ⟨b4,0,none⟩)),(5,.pointer (some ⟨b7,0,none⟩)),(17,.slice A ts.length cap),(18,.int .i64 (ts.length:Nat)),(19,.int .i64 (k:Nat))]∧SS w h w_ h_ [⟨b7,175,[.slice s1A ((l1).length) s1c,.slice s2A ((l2).length) s2c,.slice Ax ((outq ls xs k).length) cx]⟩,⟨b4,175,[.slice none 0 0,.slice none 0 0,.slice none 0 0]⟩,⟨b1,57,[.slice A ts.length cap]⟩] [⟨35,1,s1A,s1c,(l1).length,(l1).flatMap vc⟩,⟨35,1,s2A,s2c,(l2).length,(l2).flatMap vc⟩] [fun h_=>QVs h_ l1 (insq ls xs k),fun h_=>QVs h_ l2 (sumsq ls xs k),fun h_=>SlO 5 qc 0 h_ Ax (outq ls xs k),fun h_=>Tab h_,fun h_=>SlO 5 qc 0 h_ X xs,fun h_=>NetL h_ ts ls,fun h_=>SlO 3 lvc lvd h_ A ts]∧(k≤ls.length)∧(l1.length=k)∧(l2.length=k)∧((outq ls xs k).length≤cx)) _ ⟨0,none,0,none,0,[],[],X,c0,h9,rfl,rfl,hs.to _ _,Nat.zero_le _,rfl,rfl,hc0⟩ ?_
 rintro _ _ w11 ⟨k,s1A,s1c,s2A,s2c,l1,l2,Ax,cx,h12,hm13,rfl,hs,hk,hl1,hl2,hcx⟩
 have hlx:=outq_len hO hx k oM
 have hsm:=fun h0=>hO.small k h0
 refine cSL ?_
 cases hb14:(decide (((k:Nat):Int)<((ts.length:Nat):Int)))
 ·
  have phb14:=oF hb14
  refine lB 20 hb14 ?_
  refine lN (CG.seq (cIF (CG.exit ?_)))
  show CG _ _ _ _ _ _ _ _
  refine cSL ?_
  obtain ⟨h15,hs,hc16⟩:=hs.pubr 0 (A:=s1A) (c:=s1c) (l:=l1) (f:=vc) (ty:=35) (sz:=1) undef (fun _=>rfl)
  obtain ⟨h18,hs,hc19⟩:=hs.pubr 0 (A:=s2A) (c:=s2c) (l:=l2) (f:=vc) (ty:=35) (sz:=1) undef (fun _=>rfl)
  refine lL hs [.o 83 (.agg #[.slice s1A ((l1).length) s1c,.slice s2A ((l2).length) s2c,.slice Ax ((outq ls xs k).length) cx]) 0 0 3] (lP 1 0 ([.slice s1A ((l1).length) s1c,.slice s2A ((l2).length) s2c,.slice Ax ((outq ls xs k).length) cx]) hs (fun w21 hs=>?_))
  refine lN (CG.ret ?_)
  have hkn:k=ls.length:=by omega
  exact hs.ret [(1,0,3)] (.agg #[.slice s1A ((l1).length) s1c,.slice s2A ((l2).length) s2c,.slice Ax ((outq ls xs k).length) cx]) (by rw[←hkn];exact ⟨_,_,l1,_,_,l2,_,_,rfl,hc16,hc19,hcx,(hs.f.2.1),(hs.f.1),(hs.f.2.2.1),(hs.f.2.2.2.1),(hs.f.2.2.2.2.1)⟩)
 have phb14:=oT hb14
 refine lB 20 hb14 ?_
 refine lN (CG.seq (cIT (CG.skipN (CG.seq (CG.block (cSL (lX 21 A ts.length cap 3 (k:Nat) k ((hs.f.2.2.2.2.2.2.1).ok oM) ?_)))))))
 obtain ⟨ekx,⟨AWx,cWx,usx,eWx,hcWx,hAWx,hUx⟩,⟨ABx,cBx,eBx,hcBx,hABx⟩⟩:=(hs.f.2.2.2.2.2.1).at_ k oM
 obtain ⟨mtx,lbx,r12x,kdx⟩:=hO.lay k oM
 have lux:=hUx.len;have mrx:=mtx.rows;have mpx:=mtx.rpos;have mcx:=mtx.cpos;have m0x:=mtx.row 0 oM
 replace hs:=(((hs.a_SlO hAWx).add (K:=fun h_=>QVs h_ usx (ls.getD k lay0).W) hUx).a_SlO hABx)
 refine lHe 22 (.agg #[.int .i64 ((ts.getD k lvd).1),(ts.getD k lvd).2.1,(ts.getD k lvd).2.2]) hs ((hs.f.2.2.2.2.2.2.2.2.2.1).el k oM) (by rw[ekx,eWx,eBx]) ?_
 refine lA 7 114 ([.int .i64 0,.slice none 0 0,.slice none 0 0]) hs (fun b22 w23 h24 hs=>?_)
 refine lP 0 0 ([.int .i64 ((ls.getD k lay0).k),.slice AWx usx.length cWx,.slice ABx ((ls.getD k lay0).B.length) cBx]) hs (fun w25 hs=>?_)
 refine lNS (lL hs [.v 23 (.pointer (some ⟨b22,1,none⟩)),.o 24 (.slice AWx usx.length cWx) 0 1 1,.v 25 (.int .i64 (usx.length:Nat))] (lK 26 74 usx.length 5 56 (.agg #[.bool false,.int .u64 0,.string ⟨#[]⟩,.int .u64 0,.string ⟨#[]⟩]) qc 0 hs (fun b26 w27 h28 hs=>?_)))
 have hl29:(List.replicate usx.length 0).length=usx.length:=by simp
 refine lL hs [.m 8 26] (lNS (lL hs [.v 27 (.pointer (some ⟨b22,1,none⟩)),.o 28 (.slice AWx usx.length cWx) 1 1 1,.v 29 (.int .i64 (usx.length:Nat))] (lK 30 74 usx.length 5 56 (.agg #[.bool false,.int .u64 0,.string ⟨#[]⟩,.int .u64 0,.string ⟨#[]⟩]) qc 0 hs (fun b30 w31 h32 hs=>?_))))
 have hl33:(List.replicate usx.length 0).length=usx.length:=by simp
 refine lL hs [.m 9 30] (lN (CG.seq (cSL (lL hs [.v 31 (.pointer (some ⟨b22,1,none⟩)),.o 32 (.slice AWx usx.length cWx) 2 1 1,.v 33 (.int .i64 (usx.length:Nat)),.v 34 (.int .i64 0)] (lN (CG.block (cTo [(4,.pointer (some ⟨b4,0,none⟩)),(5,.pointer (some ⟨b7,0,none⟩)),(17,.slice A ts.length cap),(18,.int .i64 (ts.length:Nat)),(19,.int .i64 (k:Nat)),(7,.pointer (some ⟨b22,0,none⟩)),(8,.slice (some ⟨b26,0,none⟩) usx.length usx.length),(9,.slice (some ⟨b30,0,none⟩) usx.length usx.length),(32,.slice AWx usx.length cWx),(33,.int .i64 (usx.length:Nat)),(34,.int .i64 0)] ?_)))))))
 refine CG.loop (fun μ_ Γ w_=>∃ (i:Nat) (ql:List Rat) (pl:List Rat) (h_:Hp),μ_=usx.length-i∧Γ=[(4,.pointer (some ⟨b4,0,none⟩)),(5,.pointer (some ⟨b7,0,none⟩)),(17,.slice A ts.length cap),(18,.int .i64 (ts.length:Nat)),(19,.int .i64 (k:Nat)),(7,.pointer (some ⟨b22,0,none⟩)),(8,.slice (some ⟨b26,0,none⟩) usx.length usx.length),(9,.slice (some ⟨b30,0,none⟩) usx.length usx.length),(32,.slice AWx usx.length cWx),(33,.int .i64 (usx.length:Nat)),(34,.int .i64 (i:Nat))]∧SS w h w_ h_ [⟨b30,74,(pl).flatMap qc⟩,⟨b26,74,(ql).flatMap qc⟩,⟨b22,114,[.int .i64 ((ls.getD k lay0).k),.slice AWx usx.length cWx,.slice ABx ((ls.getD k lay0).B.length) cBx]⟩,⟨b7,175,[.slice s1A ((l1).length) s1c,.slice s2A ((l2).length) s2c,.slice Ax ((outq ls xs k).length) cx]⟩,⟨b4,175,[.slice none 0 0,.slice none 0 0,.slice none 0 0]⟩,⟨b1,57,[.slice A ts.length cap]⟩] [⟨35,1,s1A,s1c,(l1).length,(l1).flatMap vc⟩,⟨35,1,s2A,s2c,(l2).length,(l2).flatMap vc⟩] [fun h_=>SlO 5 qc 0 h_ ABx (ls.getD k lay0).B,fun h_=>QVs h_ usx (ls.getD k lay0).W,fun h_=>SlO 1 vc undef h_ AWx usx,fun h_=>QVs h_ l1 (insq ls xs k),fun h_=>QVs h_ l2 (sumsq ls xs k),fun h_=>SlO 5 qc 0 h_ Ax (outq ls xs k),fun h_=>Tab h_,fun h_=>SlO 5 qc 0 h_ X xs,fun h_=>NetL h_ ts ls,fun h_=>SlO 3 lvc lvd h_ A ts]∧(i≤usx.length)∧(ql.length=usx.length)∧(pl.length=usx.length)∧(∀ j,j<i→ql.getD j 0=dotq ((ls.getD k lay0).W.getD j []) (outq ls xs k) (outq ls xs k).length+(ls.getD k lay0).B.getD j 0)∧(∀ j,j<i→pl.getD j 0=act (ls.getD k lay0).k (dotq ((ls.getD k lay0).W.getD j []) (outq ls xs k) (outq ls xs k).length+(ls.getD k lay0).B.getD j 0))) _ ⟨0,List.replicate usx.length 0,List.replicate usx.length 0,h32,rfl,rfl,hs.to _ _,Nat.zero_le _,by simp,by simp,fun j hj=>absurd hj (Nat.not_lt_zero j),fun j hj=>absurd hj (Nat.not_lt_zero j)⟩ ?_
 rintro _ _ w34 ⟨i,ql,pl,h35,hm36,rfl,hs,hi,hlq,hlp,hq,hp⟩
 refine cSL ?_
 cases hb37:(decide (((i:Nat):Int)<((usx.length:Nat):Int)))
 ·
  have phb37:=oF hb37
  refine lB 35 hb37 ?_
  refine lN (CG.seq (cIF (CG.exit ?_)))
  show CG _ _ _ _ _ _ _ _
  refine cSL (lL hs [.v 67 (.pointer (some ⟨b7,0,none⟩)),.o 68 (.slice s1A ((l1).length) s1c) 3 0 1,.v 69 (.pointer (some ⟨b7,2,none⟩)),.o 70 (.slice Ax ((outq ls xs k).length) cx) 3 2 1] (lR 71 35 1 ([.slice Ax ((outq ls xs k).length) cx]) hs (fun b38 w39 h40 hs=>?_)))
  refine lY 72 0 35 1 s1c s1A l1 vc (.slice Ax ((outq ls xs k).length) cx:Value) 24 b38 (.slice none 0 0) hs (hs.f.1) (fun A42 c43 w44 h45 hs=>?_)
  refine lL hs [.v 73 (.pointer (some ⟨b7,0,none⟩))] (lP 3 0 ([.slice A42 ((l1++[(.slice Ax ((outq ls xs k).length) cx:Value)]).length) c43]) hs (fun w47 hs=>?_))
  refine lNS ?_
  have hql:ql=sumq (ls.getD k lay0) (outq ls xs k):=map_of hq (show i=(ls.getD k lay0).W.length by omega) (show ql.length=(ls.getD k lay0).W.length by omega)
  have hlsq:(sumq (ls.getD k lay0) (outq ls xs k)).length=usx.length:=by rw[←hql];exact hlq
  rw[hql] at hs
  obtain ⟨h48,hs,sg49,lo50,bc51⟩:=hs.pub 1
  replace hs:=(hs.to [⟨b30,74,(pl).flatMap qc⟩,⟨b22,114,[.int .i64 ((ls.getD k lay0).k),.slice AWx usx.length cWx,.slice ABx ((ls.getD k lay0).B.length) cBx]⟩,⟨b7,175,[.slice A42 ((l1++[(.slice Ax ((outq ls xs k).length) cx:Value)]).length) c43,.slice s2A ((l2).length) s2c,.slice Ax ((outq ls xs k).length) cx]⟩,⟨b4,175,[.slice none 0 0,.slice none 0 0,.slice none 0 0]⟩,⟨b1,57,[.slice A ts.length cap]⟩] [⟨35,1,A42,c43,(l1++[(.slice Ax ((outq ls xs k).length) cx:Value)]).length,(l1++[(.slice Ax ((outq ls xs k).length) cx:Value)]).flatMap vc⟩,⟨35,1,s2A,s2c,(l2).length,(l2).flatMap vc⟩]).a_SlO (SlO.of_flat (sz:=5) (f:=qc) (d:=0) (b:=b26) (o:=0) (l:=sumq (ls.getD k lay0) (outq ls xs k)) (fun _=>rfl) sg49)
  refine lL hs [.v 74 (.pointer (some ⟨b7,1,none⟩)),.o 75 (.slice s2A ((l2).length) s2c) 2 1 1,.m 76 8] (lR 77 35 1 ([.slice (some ⟨b26,0,none⟩) usx.length usx.length]) hs (fun b53 w54 h55 hs=>?_))
  refine lY 78 1 35 1 s2c s2A l2 vc (.slice (some ⟨b26,0,none⟩) usx.length usx.length:Value) 24 b53 (.slice none 0 0) hs (hs.f.1) (fun A57 c58 w59 h60 hs=>?_)
  refine lL hs [.v 79 (.pointer (some ⟨b7,1,none⟩))] (lP 2 1 ([.slice A57 ((l2++[(.slice (some ⟨b26,0,none⟩) usx.length usx.length:Value)]).length) c58]) hs (fun w62 hs=>?_))
  refine lN (CG.listed ?_)
  have hpl:pl=outq ls xs (k+1):=map_of hp (show i=(ls.getD k lay0).W.length by omega) (show pl.length=(ls.getD k lay0).W.length by omega)
  have hll:usx.length=(outq ls xs (k+1)).length:=by rw[←hpl];omega
  rw[hpl] at hs
  obtain ⟨h63,hs,sg64,lo65,bc66⟩:=hs.pub 0
  replace hs:=(hs.to [⟨b22,114,[.int .i64 ((ls.getD k lay0).k),.slice AWx usx.length cWx,.slice ABx ((ls.getD k lay0).B.length) cBx]⟩,⟨b7,175,[.slice A42 ((l1++[(.slice Ax ((outq ls xs k).length) cx:Value)]).length) c43,.slice A57 ((l2++[(.slice (some ⟨b26,0,none⟩) usx.length usx.length:Value)]).length) c58,.slice Ax ((outq ls xs k).length) cx]⟩,⟨b4,175,[.slice none 0 0,.slice none 0 0,.slice none 0 0]⟩,⟨b1,57,[.slice A ts.length cap]⟩] [⟨35,1,A42,c43,(l1++[(.slice Ax ((outq ls xs k).length) cx:Value)]).length,(l1++[(.slice Ax ((outq ls xs k).length) cx:Value)]).flatMap vc⟩,⟨35,1,A57,c58,(l2++[(.slice (some ⟨b26,0,none⟩) usx.length usx.length:Value)]).length,(l2++[(.slice (some ⟨b26,0,none⟩) usx.length usx.length:Value)]).flatMap vc⟩]).a_SlO (SlO.of_flat (sz:=5) (f:=qc) (d:=0) (b:=b30) (o:=0) (l:=outq ls xs (k+1)) (fun _=>rfl) sg64)
  refine lV 80 (.slice (some ⟨b30,0,none⟩) ((outq ls xs (k+1)).length) usx.length) ?_ (hr:=rval kR (by rw[←hll]))
  refine lL hs [.v 81 (.pointer (some ⟨b7,2,none⟩))] (lP 1 2 ([.slice (some ⟨b30,0,none⟩) ((outq ls xs (k+1)).length) usx.length]) hs (fun w68 hs=>?_))
  refine lN (CG.listed (lIn 82 ((k:Nat)+1) (k+1) ?_))
  refine lL hs [.m 19 82] (lD ?_)
  intro a_ ka
  have q69:QVs h63 (l1++[(.slice Ax ((outq ls xs k).length) cx:Value)]) (insq ls xs (k+1)):=(by rw[insq_succ];exact (hs.f.2.2.2.2.2.2.2.1).snoc ⟨_,_,rfl,hcx,(hs.f.2.2.2.2.2.2.2.2.2.1)⟩)
  have q70:QVs h63 (l2++[(.slice (some ⟨b26,0,none⟩) usx.length usx.length:Value)]) (sumsq ls xs (k+1)):=(by rw[sumsq_succ];exact (hs.f.2.2.2.2.2.2.2.2.1).snoc ⟨_,usx.length,by rw[hlsq],Nat.le_of_eq hlsq,(hs.f.2.2.1)⟩)
  have q71:SlO 5 qc 0 h63 (some ⟨b30,0,none⟩) (outq ls xs (k+1)):=(hs.f.1)
  have q72:(k+1)≤ls.length:=by omega
  have q73:(l1++[(.slice Ax ((outq ls xs k).length) cx:Value)]).length=(k+1):=by simp;omega
  have q74:(l2++[(.slice (some ⟨b26,0,none⟩) usx.length usx.length:Value)]).length=(k+1):=by simp;omega
  have q75:(outq ls xs (k+1)).length≤usx.length:=by omega
  replace hs:=(((hs.tl.tl.tl.tl.tl.tl.tl.tl.tl.tl.add (K:=fun h_=>SlO 5 qc 0 h_ (some ⟨b30,0,none⟩) (outq ls xs (k+1))) q71).add (K:=fun h_=>QVs h_ (l2++[(.slice (some ⟨b26,0,none⟩) usx.length usx.length:Value)]) (sumsq ls xs (k+1))) q70).add (K:=fun h_=>QVs h_ (l1++[(.slice Ax ((outq ls xs k).length) cx:Value)]) (insq ls xs (k+1))) q69)
  replace hs:=hs.drop 1 0
  refine ⟨_,_,?_,⟨k+1,A42,c43,A57,c58,l1++[(.slice Ax ((outq ls xs k).length) cx:Value)],l2++[(.slice (some ⟨b26,0,none⟩) usx.length usx.length:Value)],some ⟨b30,0,none⟩,usx.length,h63,rfl,rfl,hs.to _ _,q72,q73,q74,q75⟩,ka.to [(4,.pointer (some ⟨b4,0,none⟩)),(5,.pointer (some ⟨b7,0,none⟩)),(17,.slice A ts.length cap),(18,.int .i64 (ts.length:Nat)),(19,.int .i64 ((k+1):Nat))] kR⟩
  omega
 have phb37:=oT hb37
 refine lB 35 hb37 ?_
 refine lN (CG.seq (cIT (CG.skipN (CG.seq (CG.block (cSL (lL hs [.m 36 34] (lX 37 AWx usx.length cWx 1 (i:Nat) i ((hs.f.2.2.1).ok oM) ?_))))))))
 obtain ⟨Arp,crp,erp,hcrp,hRrp⟩:=(hs.f.2.1).at_ i oM
 replace hs:=(hs.a_SlO hRrp)
 refine lHe 38 (usx.getD i undef) hs ((hs.f.2.2.2.1).el i oM) erp ?_
 refine lL hs [.m 10 36,.m 11 38] (lNS (lL hs [.m 40 11,.v 41 (.pointer (some ⟨b7,2,none⟩)),.o 42 (.slice Ax ((outq ls xs k).length) cx) 3 2 1] (lC 43 hs (fDotN Arp crp ((ls.getD k lay0).W.getD i []) Ax cx (outq ls xs k) (outq ls xs k).length _ _ rfl rfl (by rw[mtx.row i oM,hlx]) rfl 1000000 1000000 oM (dot_b1 (show (outq ls xs k).length≤20 by omega)) (hB.w k i) (hB.x k oM) _ _ hs.g (hs.f.1) (hs.f.2.2.2.2.2.2.1) (hs.f.2.2.2.2.2.2.2.1)) ?_)))
 rintro _ w76 h77 hs rfl
 have hdt:LQ 41000000 (dotq ((ls.getD k lay0).W.getD i []) (outq ls xs k) (outq ls xs k).length):=(LQ.dot (n:=(outq ls xs k).length) (fun j _=>hB.w k i j) (fun j _=>hB.x k oM j) _ (Nat.le_refl _)).mono (dot_b2 (show (outq ls xs k).length≤20 by omega))
 refine lL hs [.m 39 43,.v 44 (qv (dotq ((ls.getD k lay0).W.getD i []) (outq ls xs k) (outq ls xs k).length)),.v 45 (.bool true)] (lA 12 74 ([.bool false,.int .u64 0,.string ⟨#[]⟩,.int .u64 0,.string ⟨#[]⟩]) hs (fun b78 w79 h80 hs=>?_))
 refine lP 0 0 (qc (dotq ((ls.getD k lay0).W.getD i []) (outq ls xs k) (outq ls xs k).length)) hs (fun w81 hs=>?_)
 refine lL hs [.m 13 45] (lN (CG.seq (cR 9 [] mixed hs al_nil ?_)))
 refine eV 0 46 (.slice (some ⟨b26,0,none⟩) usx.length usx.length) ?_
 refine eV 1 47 (.int .i64 (i:Nat)) ?_
 refine eO 2 48 [(0,0,5)] (qv (dotq ((ls.getD k lay0).W.getD i []) (outq ls xs k) (outq ls xs k).length)) hs ?_
 refine eV 3 49 (.pointer (some ⟨b22,2,none⟩)) ?_
 refine eO 4 50 [(3,2,1)] (.slice ABx ((ls.getD k lay0).B.length) cBx) hs ?_
 refine eV 5 51 (.int .i64 (i:Nat)) ?_
 refine eX 6 52 ABx ((ls.getD k lay0).B.length) cBx 5 (i:Nat) i ((hs.f.2.1).ok oM) ?_
 refine eH 7 53 (qv (((ls.getD k lay0).B).getD i 0)) hs ((hs.f.2.1).el i oM) ?_
 have hq82:LQ (41000000+1000000+1) ((dotq ((ls.getD k lay0).W.getD i []) (outq ls xs k) (outq ls xs k).length)+(((ls.getD k lay0).B).getD i 0)):=LQ.add hdt (hB.b k i)
 refine eC 8 54 hs (fun _ _ hs=>fAdd (dotq ((ls.getD k lay0).W.getD i []) (outq ls xs k) (outq ls xs k).length) (((ls.getD k lay0).B).getD i 0) (LQ.mono hdt oM) (LQ.mono (hB.b k i) oM) _ _ hs.g (hs.f.2.2.2.2.2.2.2.1)) ?_
 rintro _ _ _ w83 h84 hs rfl
 refine eD0 hs (fun w85 h86 hs=>?_)
 refine tX 9 55 (some ⟨b26,0,none⟩) usx.length usx.length 5 (i:Nat) i rfl ?_
 refine tW 10 2 ql qc 5 i ((dotq ((ls.getD k lay0).W.getD i []) (outq ls xs k) (outq ls xs k).length)+(((ls.getD k lay0).B).getD i 0)) hs oM (fun w87 hs=>?_)
 have hl88:((ql).set i ((dotq ((ls.getD k lay0).W.getD i []) (outq ls xs k) (outq ls xs k).length)+(((ls.getD k lay0).B).getD i 0))).length=usx.length:=by rw[List.length_set];exact hlq
 replace hs:=hs.to [⟨b78,74,qc (dotq ((ls.getD k lay0).W.getD i []) (outq ls xs k) (outq ls xs k).length)⟩,⟨b30,74,(pl).flatMap qc⟩,⟨b26,74,((ql).set i ((dotq ((ls.getD k lay0).W.getD i []) (outq ls xs k) (outq ls xs k).length)+(((ls.getD k lay0).B).getD i 0))).flatMap qc⟩,⟨b22,114,[.int .i64 ((ls.getD k lay0).k),.slice AWx usx.length cWx,.slice ABx ((ls.getD k lay0).B.length) cBx]⟩,⟨b7,175,[.slice s1A ((l1).length) s1c,.slice s2A ((l2).length) s2c,.slice Ax ((outq ls xs k).length) cx]⟩,⟨b4,175,[.slice none 0 0,.slice none 0 0,.slice none 0 0]⟩,⟨b1,57,[.slice A ts.length cap]⟩] [⟨35,1,s1A,s1c,(l1).length,(l1).flatMap vc⟩,⟨35,1,s2A,s2c,(l2).length,(l2).flatMap vc⟩]
 refine tN (cR 9 [] mixed hs al_nil ?_)
 refine eV 0 56 (.slice (some ⟨b30,0,none⟩) usx.length usx.length) ?_
 refine eV 1 57 (.int .i64 (i:Nat)) ?_
 refine eV 2 58 (.pointer (some ⟨b22,0,none⟩)) ?_
 refine eO 3 59 [(3,0,1)] (.int .i64 ((ls.getD k lay0).k)) hs ?_
 refine eV 4 60 (.slice (some ⟨b26,0,none⟩) usx.length usx.length) ?_
 refine eV 5 61 (.int .i64 (i:Nat)) ?_
 refine eX 6 62 (some ⟨b26,0,none⟩) usx.length usx.length 5 (i:Nat) i rfl ?_
 refine eQ 7 63 2 ((ql).set i ((dotq ((ls.getD k lay0).W.getD i []) (outq ls xs k) (outq ls xs k).length)+(((ls.getD k lay0).B).getD i 0))) qc 5 0 i (qv (((ql).set i ((dotq ((ls.getD k lay0).W.getD i []) (outq ls xs k) (outq ls xs k).length)+(((ls.getD k lay0).B).getD i 0))).getD i 0)) hs oM ?_
 refine eC 8 64 hs (fun _ _ hs=>nAct _ kdx (((ql).set i ((dotq ((ls.getD k lay0).W.getD i []) (outq ls xs k) (outq ls xs k).length)+(((ls.getD k lay0).B).getD i 0))).getD i 0) (by rw[getD_set_self oM];exact LQ.mono (LQ.add hdt (hB.b k i)) oM) _ _ hs.g (hs.f.2.2.2.2.2.2.2.1)) ?_
 rintro _ _ _ w89 h90 hs rfl
 refine eD0 hs (fun w91 h92 hs=>?_)
 refine tX 9 65 (some ⟨b30,0,none⟩) usx.length usx.length 5 (i:Nat) i rfl ?_
 refine tW 10 1 pl qc 5 i (act (ls.getD k lay0).k (((ql).set i ((dotq ((ls.getD k lay0).W.getD i []) (outq ls xs k) (outq ls xs k).length)+(((ls.getD k lay0).B).getD i 0))).getD i 0)) hs oM (fun w93 hs=>?_)
 have hl94:((pl).set i (act (ls.getD k lay0).k (((ql).set i ((dotq ((ls.getD k lay0).W.getD i []) (outq ls xs k) (outq ls xs k).length)+(((ls.getD k lay0).B).getD i 0))).getD i 0))).length=usx.length:=by rw[List.length_set];exact hlp
 replace hs:=hs.to [⟨b78,74,qc (dotq ((ls.getD k lay0).W.getD i []) (outq ls xs k) (outq ls xs k).length)⟩,⟨b30,74,((pl).set i (act (ls.getD k lay0).k (((ql).set i ((dotq ((ls.getD k lay0).W.getD i []) (outq ls xs k) (outq ls xs k).length)+(((ls.getD k lay0).B).getD i 0))).getD i 0))).flatMap qc⟩,⟨b26,74,((ql).set i ((dotq ((ls.getD k lay0).W.getD i []) (outq ls xs k) (outq ls xs k).length)+(((ls.getD k lay0).B).getD i 0))).flatMap qc⟩,⟨b22,114,[.int .i64 ((ls.getD k lay0).k),.slice AWx usx.length cWx,.slice ABx ((ls.getD k lay0).B.length) cBx]⟩,⟨b7,175,[.slice s1A ((l1).length) s1c,.slice s2A ((l2).length) s2c,.slice Ax ((outq ls xs k).length) cx]⟩,⟨b4,175,[.slice none 0 0,.slice none 0 0,.slice none 0 0]⟩,⟨b1,57,[.slice A ts.length cap]⟩] [⟨35,1,s1A,s1c,(l1).length,(l1).flatMap vc⟩,⟨35,1,s2A,s2c,(l2).length,(l2).flatMap vc⟩]
 refine tN (cTo [(4,.pointer (some ⟨b4,0,none⟩)),(5,.pointer (some ⟨b7,0,none⟩)),(17,.slice A ts.length cap),(18,.int .i64 (ts.length:Nat)),(19,.int .i64 (k:Nat)),(7,.pointer (some ⟨b22,0,none⟩)),(8,.slice (some ⟨b26,0,none⟩) usx.length usx.length),(9,.slice (some ⟨b30,0,none⟩) usx.length usx.length),(32,.slice AWx usx.length cWx),(33,.int .i64 (usx.length:Nat)),(34,.int .i64 (i:Nat))] ?_)
 refine CG.listed (lIn 66 ((i:Nat)+1) (i+1) ?_)
 refine lL hs [.m 34 66] (lD ?_)
 intro a_ ka
 have q95:(i+1)≤usx.length:=by omega
 have q96:((ql).set i ((dotq ((ls.getD k lay0).W.getD i []) (outq ls xs k) (outq ls xs k).length)+(((ls.getD k lay0).B).getD i 0))).length=usx.length:=hl88
 have q97:((pl).set i (act (ls.getD k lay0).k (((ql).set i ((dotq ((ls.getD k lay0).W.getD i []) (outq ls xs k) (outq ls xs k).length)+(((ls.getD k lay0).B).getD i 0))).getD i 0))).length=usx.length:=hl94
 have q98:∀ j,j<(i+1)→((ql).set i ((dotq ((ls.getD k lay0).W.getD i []) (outq ls xs k) (outq ls xs k).length)+(((ls.getD k lay0).B).getD i 0))).getD j 0=dotq ((ls.getD k lay0).W.getD j []) (outq ls xs k) (outq ls xs k).length+(ls.getD k lay0).B.getD j 0:=(fstep hq oM rfl)
 have q99:∀ j,j<(i+1)→((pl).set i (act (ls.getD k lay0).k (((ql).set i ((dotq ((ls.getD k lay0).W.getD i []) (outq ls xs k) (outq ls xs k).length)+(((ls.getD k lay0).B).getD i 0))).getD i 0))).getD j 0=act (ls.getD k lay0).k (dotq ((ls.getD k lay0).W.getD j []) (outq ls xs k) (outq ls xs k).length+(ls.getD k lay0).B.getD j 0):=(fstep hp oM (congrArg _ (getD_set_self oM)))
 replace hs:=hs.tl
 replace hs:=hs.drop 1 0
 refine ⟨_,_,?_,⟨i+1,(ql).set i ((dotq ((ls.getD k lay0).W.getD i []) (outq ls xs k) (outq ls xs k).length)+(((ls.getD k lay0).B).getD i 0)),(pl).set i (act (ls.getD k lay0).k (((ql).set i ((dotq ((ls.getD k lay0).W.getD i []) (outq ls xs k) (outq ls xs k).length)+(((ls.getD k lay0).B).getD i 0))).getD i 0)),h92,rfl,rfl,hs.to _ _,q95,q96,q97,q98,q99⟩,ka.to [(4,.pointer (some ⟨b4,0,none⟩)),(5,.pointer (some ⟨b7,0,none⟩)),(17,.slice A ts.length cap),(18,.int .i64 (ts.length:Nat)),(19,.int .i64 (k:Nat)),(7,.pointer (some ⟨b22,0,none⟩)),(8,.slice (some ⟨b26,0,none⟩) usx.length usx.length),(9,.slice (some ⟨b30,0,none⟩) usx.length usx.length),(32,.slice AWx usx.length cWx),(33,.int .i64 (usx.length:Nat)),(34,.int .i64 ((i+1):Nat))] kR⟩
 omega
theorem lq0':LQ 1 0:=LQ.lit (z:=0) kD
theorem chkFrom_ok {ls:List Lay}:∀ (n k:Nat),chkFrom ls k n=0→∀ i,k≤i→i<k+n→Fine ls i∧Kd ls i
  | 0,k,_,i,h1,h2=>absurd h2 oM
  | n + 1,k,h,i,h1,h2=>by
    unfold chkFrom at h
    split at h
    · rename_i hf
      split at h
      · rename_i hd
        by_cases e:i=k
        · subst e;exact ⟨hf,hd⟩
        · exact chkFrom_ok n (k+1) h i oM oM
      · exact absurd h kD
    · exact absurd h kD
def dOf (ls:List Lay)(i:Nat):Nat:=if i=0 then ((ls.getD 0 lay0).W.getD 0 []).length else (ls.getD (i-1) lay0).W.length
theorem chk_net3 {ls:List Lay}(h:chkq ls=0):Net3 ls (dOf ls):=by
  unfold chkq at h
  split at h
  · rename_i hl
    have H:=chkFrom_ok ls.length 0 h
    refine ⟨hl,?_,fun i hi=>?_⟩
    · obtain ⟨⟨_,_,_,f4,_⟩,_⟩:=H 0 oM oM
      show (if 0=0 then _ else _)≤20
      rw[if_pos rfl];exact f4 rfl
    · obtain ⟨⟨f1,f2,f3,f4,f5⟩,k1,k2⟩:=H i oM oM
      obtain ⟨r1,r2,r3⟩:=f1
      have e1:dOf ls (i+1)=(ls.getD i lay0).W.length:=by show (if i+1=0 then _ else _)=_;rw[if_neg oM];rfl
      have e2:((ls.getD i lay0).W.getD 0 []).length=dOf ls i:=by
        by_cases h0:i=0
        · subst h0;show _=(if 0=0 then _ else _);rw[if_pos rfl]
        · rw[f5 oM];show _=(if i=0 then _ else _);rw[if_neg h0]
      rw[e1]
      refine ⟨⟨rfl,r1,by rw[←e2];exact r2,fun j hj=>by rw[←e2];exact r3 j hj⟩,f3,f2,by omega⟩
  · exact absurd h kD
structure LaySz (L:Lay):Prop where
  rl:L.W.length≤8
  rls:∀ i,(L.W.getD i []).length≤8
  bl:L.B.length≤8
  w:∀ i j,LQ 1 ((L.W.getD i []).getD j 0)
  b:∀ i,LQ 1 (L.B.getD i 0)
theorem LaySz.fit {L:Lay}(h:LaySz L):LayFit L:=⟨by have:=h.rl;omega,fun i _=>by have:=h.rls i;omega,fun i _ j _=>(h.w i j).mono oM,by have:=h.bl;omega,fun i _=>(h.b i).mono oM⟩
theorem LaySz.len {L:Lay}(h:LaySz L):LayLen L:=⟨by have:=h.rl;omega,fun i _=>by have:=h.rls i;omega,by have:=h.bl;omega⟩
theorem lq0 {k:Nat}(h:1≤k):LQ k 0:=(LQ.lit (z:=0) kD).mono h
def grow:Nat→Nat
  | 0=>1
  | k+1=>16*grow k+40
theorem layq_lq {L:Lay}{x:List Rat}{m:Nat}(h:LaySz L)(hx:∀ j,LQ m (x.getD j 0))(hl:x.length≤8)(hm:1≤m)(j:Nat):LQ (16*m+40) ((layq L x).getD j 0):=by
  unfold layq
  by_cases hj:j<L.W.length
  · rw[List.getD_eq_getElem?_getD,List.getElem?_eq_getElem (by simpa using hj),List.getElem_map,List.getElem_range]
    show LQ _ (act _ _)
    have h1:=LQ.dot (n:=x.length) (fun i _=>h.w j i) (fun i _=>hx i) x.length (Nat.le_refl _)
    have h2:=(h1.add (h.b j)).mono (l:=8*m+19) (by
      have:x.length*(1+m+1)≤8*(1+m+1):=Nat.mul_le_mul_right _ hl
      omega)
    exact (LQ.act _ h2 oM).mono oM
  · rw[List.getD_eq_getElem?_getD,List.getElem?_eq_none (by simpa using hj)]
    exact lq0 oM
theorem outq_lq {ls:List Lay}{d:Nat→Nat}(o:Net3 ls d)(hL:∀ k,LaySz (ls.getD k lay0)){xs:List Rat}(hx:xs.length=d 0)(hq:∀ j,LQ 1 (xs.getD j 0)):∀ k,k≤ls.length→∀ j,LQ (grow k) ((outq ls xs k).getD j 0)
  | 0,_,j=>hq j
  | k + 1,hk,j=>by
    show LQ (16*grow k+40) ((layq _ _).getD j 0)
    refine layq_lq (hL k) (outq_lq o hL hx hq k oM) ?_ ?_ j
    · rw[outq_len o hx k oM]
      have h0:=(o.lay k oM).1.row 0 (o.lay k oM).1.rpos
      have:=(hL k).rls 0
      omega
    · cases k with
      | zero=>exact Nat.le_refl _
      | succ k=>show 1≤16*grow k+40;omega
theorem grow_le (k:Nat)(h:k≤4):grow k≤1000000:=by
  have:k=0∨k=1∨k=2∨k=3∨k=4:=by omega
  rcases this with rfl|rfl|rfl|rfl|rfl<;>decide
theorem lay0_sz:LaySz lay0:=⟨by decide,fun i=>by simp[lay0],by decide,fun i j=>by simp[lay0];exact lq0 oM,fun i=>by simp[lay0];exact lq0 oM⟩
theorem netB {ls:List Lay}{d:Nat→Nat}(o:Net3 ls d)(hL:∀ k,LaySz (ls.getD k lay0)){xs:List Rat}(hx:xs.length=d 0)(hq:∀ j,LQ 1 (xs.getD j 0)):NetB ls xs :=
  ⟨fun k i j=>((hL k).w i j).mono oM,fun k i=>((hL k).b i).mono oM,fun k hk j=>(outq_lq o hL hx hq k hk j).mono (grow_le k (by have:=o.len.2;omega))⟩
noncomputable def ansE (ls:List Lay)(xs:List Rat):Int:=if chkq ls=0 then (if xs.length=dOf ls 0 then 0 else 5) else 1
noncomputable def ansL (ls:List Lay)(xs:List Rat):List Rat:=if chkq ls=0∧xs.length=dOf ls 0 then outq ls xs ls.length else []
theorem cmpR_self (a:Rat):cmpR a a=0:=by unfold cmpR cmpI;rw[if_neg oM,if_neg oM]
theorem ansE0 {ls:List Lay}{xs:List Rat}(h1:chkq ls=0)(h2:xs.length=dOf ls 0):ansE ls xs=0:=by unfold ansE;rw[if_pos h1,if_pos h2]
theorem ansE1 {ls:List Lay}{xs:List Rat}(h1:chkq ls≠0):ansE ls xs=1:=by unfold ansE;rw[if_neg h1]
theorem ansE5 {ls:List Lay}{xs:List Rat}(h1:chkq ls=0)(h2:xs.length≠dOf ls 0):ansE ls xs=5:=by unfold ansE;rw[if_pos h1,if_neg h2]
theorem ansL0 {ls:List Lay}{xs:List Rat}(h1:chkq ls=0)(h2:xs.length=dOf ls 0):ansL ls xs=outq ls xs ls.length:=by unfold ansL;rw[if_pos ⟨h1,h2⟩]
theorem ansL1 {ls:List Lay}{xs:List Rat}(h:¬(chkq ls=0∧xs.length=dOf ls 0)):ansL ls xs=[]:=by unfold ansL;rw[if_neg h]
theorem bneF' {a b:Int}(h:a=b):((a:Int) != (b:Int))=false:=by simpa using h
theorem nAnswer1 (A:Option Addr)(cap:Nat)(ts:List LV)(ls:List Lay)(hn:ls.length≤1000000)(hF:∀ i,i<ls.length→LayLen (ls.getD i lay0))(X:Option Addr)(c0:Nat)(xs:List Rat)(hc0:xs.length≤c0)(hB:chkq ls=0→xs.length=dOf ls 0→NetB ls xs)(h1:chkq ls≠0)(w:World)(h:Hp)(g:G w h)(hA:SlO 3 lvc lvd h A ts)(hN:NetL h ts ls)(hX:SlO 5 qc 0 h X xs)(tb:Tab h) :
    Calls Tryz.prog 26 #[.agg #[.slice A ts.length cap],.slice X xs.length c0] w (Ret w h fun v h1=>∃ A c,v=.tuple #[.slice A (ansL ls xs).length c,.int .i64 (ansE ls xs)]∧(ansL ls xs).length≤c∧SlO 5 qc 0 h1 A (ansL ls xs)):=by
 have hs:=SS.start g
 replace hs:=((((hs.a_SlO hA).add (K:=fun h_=>NetL h_ ts ls) hN).a_SlO hX).add (K:=fun h_=>Tab h_) tb)
 refine go Tryz.func26 [(0,.agg #[.slice A ts.length cap]),(1,.slice X xs.length c0)] rfl ?_
 refine cSL (lA 2 57 ([.slice A ts.length cap]) hs (fun b1 w2 h3 hs=>?_))
 refine lL hs [.v 4 (.slice none 0 0),.v 5 (.int .i64 0)] (lN (CG.seq (cSL (lL hs [.o 6 (.agg #[.slice A ts.length cap]) 0 0 1] (lC 7 hs (nCheckG A cap ts ls hn hF _ _ hs.g (hs.f.2.2.2.1) (hs.f.2.2.1)) ?_)))))
 rintro _ w4 h5 hs rfl
 have hb6:((chkq ls:Int) != (0:Int))=true:=bneT h1
 have phb6:=neOfBne hb6
 refine lB 8 hb6 ?_
 exact lN (cIT (cSL (lL hs [.v 4 (.slice none 0 0),.v 5 (.int .i64 1)] (lN (CG.ret (hs.ret [] (.tuple #[.slice none 0 0,.int .i64 1]) (⟨none,0,by rw[ansE1 h1,ansL1 (fun e=>h1 e.1)];rfl,by rw[ansL1 (fun e=>h1 e.1)];exact Nat.le_refl _,by rw[ansL1 (fun e=>h1 e.1)];exact SlO.nil⟩)))))))
theorem nAnswer5 (A:Option Addr)(cap:Nat)(ts:List LV)(ls:List Lay)(hn:ls.length≤1000000)(hF:∀ i,i<ls.length→LayLen (ls.getD i lay0))(X:Option Addr)(c0:Nat)(xs:List Rat)(hc0:xs.length≤c0)(hB:chkq ls=0→xs.length=dOf ls 0→NetB ls xs)(h1:chkq ls=0)(h2:xs.length≠dOf ls 0)(w:World)(h:Hp)(g:G w h)(hA:SlO 3 lvc lvd h A ts)(hN:NetL h ts ls)(hX:SlO 5 qc 0 h X xs)(tb:Tab h) :
    Calls Tryz.prog 26 #[.agg #[.slice A ts.length cap],.slice X xs.length c0] w (Ret w h fun v h1=>∃ A c,v=.tuple #[.slice A (ansL ls xs).length c,.int .i64 (ansE ls xs)]∧(ansL ls xs).length≤c∧SlO 5 qc 0 h1 A (ansL ls xs)):=by
 have hs:=SS.start g
 replace hs:=((((hs.a_SlO hA).add (K:=fun h_=>NetL h_ ts ls) hN).a_SlO hX).add (K:=fun h_=>Tab h_) tb)
 refine go Tryz.func26 [(0,.agg #[.slice A ts.length cap]),(1,.slice X xs.length c0)] rfl ?_
 refine cSL (lA 2 57 ([.slice A ts.length cap]) hs (fun b1 w2 h3 hs=>?_))
 refine lL hs [.v 4 (.slice none 0 0),.v 5 (.int .i64 0)] (lN (CG.seq (cSL (lL hs [.o 6 (.agg #[.slice A ts.length cap]) 0 0 1] (lC 7 hs (nCheckG A cap ts ls hn hF _ _ hs.g (hs.f.2.2.2.1) (hs.f.2.2.1)) ?_)))))
 rintro _ w4 h5 hs rfl
 have hb6:((chkq ls:Int) != (0:Int))=false:=bneF' h1
 have phb6:=eqOfBne hb6
 refine lB 8 hb6 ?_
 refine lN (cIF (CG.skipN (CG.seq (cSL (lL hs [.o 9 (.agg #[.slice A ts.length cap]) 0 0 1,.m 10 1] (lC 11 hs (nSuitsF A cap ts ls (dOf ls) (chk_net3 h1) X c0 xs h2 _ _ hs.g (hs.f.2.2.2.1) (hs.f.2.2.1) (hs.f.2.1)) ?_))))))
 rintro _ w7 h8 hs rfl
 exact lL hs [.v 12 (.bool true)] (lN (cIT (cSL (lL hs [.v 4 (.slice none 0 0),.v 5 (.int .i64 5)] (lN (CG.ret (hs.ret [] (.tuple #[.slice none 0 0,.int .i64 5]) (⟨none,0,by rw[ansE5 h1 h2,ansL1 (fun e=>h2 e.2)];rfl,by rw[ansL1 (fun e=>h2 e.2)];exact Nat.le_refl _,by rw[ansL1 (fun e=>h2 e.2)];exact SlO.nil⟩))))))))
theorem nAnswer0 (A:Option Addr)(cap:Nat)(ts:List LV)(ls:List Lay)(hn:ls.length≤1000000)(hF:∀ i,i<ls.length→LayLen (ls.getD i lay0))(X:Option Addr)(c0:Nat)(xs:List Rat)(hc0:xs.length≤c0)(hB:chkq ls=0→xs.length=dOf ls 0→NetB ls xs)(h1:chkq ls=0)(h2:xs.length=dOf ls 0)(w:World)(h:Hp)(g:G w h)(hA:SlO 3 lvc lvd h A ts)(hN:NetL h ts ls)(hX:SlO 5 qc 0 h X xs)(tb:Tab h) :
    Calls Tryz.prog 26 #[.agg #[.slice A ts.length cap],.slice X xs.length c0] w (Ret w h fun v h1=>∃ A c,v=.tuple #[.slice A (ansL ls xs).length c,.int .i64 (ansE ls xs)]∧(ansL ls xs).length≤c∧SlO 5 qc 0 h1 A (ansL ls xs)):=by
 have hs:=SS.start g
 replace hs:=((((hs.a_SlO hA).add (K:=fun h_=>NetL h_ ts ls) hN).a_SlO hX).add (K:=fun h_=>Tab h_) tb)
 refine go Tryz.func26 [(0,.agg #[.slice A ts.length cap]),(1,.slice X xs.length c0)] rfl ?_
 refine cSL (lA 2 57 ([.slice A ts.length cap]) hs (fun b1 w2 h3 hs=>?_))
 refine lL hs [.v 4 (.slice none 0 0),.v 5 (.int .i64 0)] (lN (CG.seq (cSL (lL hs [.o 6 (.agg #[.slice A ts.length cap]) 0 0 1] (lC 7 hs (nCheckG A cap ts ls hn hF _ _ hs.g (hs.f.2.2.2.1) (hs.f.2.2.1)) ?_)))))
 rintro _ w4 h5 hs rfl
 have hb6:((chkq ls:Int) != (0:Int))=false:=bneF' h1
 have phb6:=eqOfBne hb6
 refine lB 8 hb6 ?_
 refine lN (cIF (CG.skipN (CG.seq (cSL (lL hs [.o 9 (.agg #[.slice A ts.length cap]) 0 0 1,.m 10 1] (lC 11 hs (nSuitsT A cap ts ls (dOf ls) (chk_net3 h1) X c0 xs h2 _ _ hs.g (hs.f.2.2.2.1) (hs.f.2.2.1) (hs.f.2.1)) ?_))))))
 rintro _ w7 h8 hs rfl
 refine lL hs [.v 12 (.bool false)] (lN (cIF (CG.skipN (cSL (lL hs [.o 13 (.agg #[.slice A ts.length cap]) 0 0 1,.m 14 1] (lC 15 hs (nForward A cap ts ls (dOf ls) (chk_net3 h1) X c0 xs h2 hc0 (hB h1 h2) _ _ hs.g (hs.f.2.2.2.1) (hs.f.2.2.1) (hs.f.2.1) (hs.f.1)) ?_))))))
 rintro _ w9 h10 hs ⟨A1,c1,u1,A2,c2,u2,Ax,cx,rfl,-,-,hcx,-,-,-,-,hXk⟩
 replace hs:=(hs.a_SlO hXk)
 exact lL hs [.v 16 (.slice Ax ((outq ls xs ls.length).length) cx),.m 4 16,.v 5 (.int .i64 0)] (lN (CG.ret (hs.ret [] (.tuple #[.slice Ax ((outq ls xs ls.length).length) cx,.int .i64 0]) (⟨_,_,by rw[ansE0 h1 h2,ansL0 h1 h2],by rw[ansL0 h1 h2];exact hcx,by rw[ansL0 h1 h2];exact (hs.f.1)⟩))))
theorem nAnswer (A:Option Addr)(cap:Nat)(ts:List LV)(ls:List Lay)(hn:ls.length≤1000000)(hF:∀ i,i<ls.length→LayLen (ls.getD i lay0))(X:Option Addr)(c0:Nat)(xs:List Rat)(hc0:xs.length≤c0)(hB:chkq ls=0→xs.length=dOf ls 0→NetB ls xs)(w:World)(h:Hp)(g:G w h)(hA:SlO 3 lvc lvd h A ts)(hN:NetL h ts ls)(hX:SlO 5 qc 0 h X xs)(tb:Tab h):Calls Tryz.prog 26 #[.agg #[.slice A ts.length cap],.slice X xs.length c0] w (Ret w h (fun v h1=>∃ A c,v=.tuple #[.slice A (ansL ls xs).length c,.int .i64 (ansE ls xs)]∧(ansL ls xs).length≤c∧SlO 5 qc 0 h1 A (ansL ls xs))):=by
  by_cases h1:chkq ls=0
  · by_cases h2:xs.length=dOf ls 0
    · exact nAnswer0 A cap ts ls hn hF X c0 xs hc0 hB h1 h2 w h g hA hN hX tb
    · exact nAnswer5 A cap ts ls hn hF X c0 xs hc0 hB h1 h2 w h g hA hN hX tb
  · exact nAnswer1 A cap ts ls hn hF X c0 xs hc0 hB h1 w h g hA hN hX tb
def sizesq (ls:List Lay):List Nat:=dOf ls 0::ls.map (·.W.length)
theorem rNetSizes (A:Option Addr)(cap:Nat)(ts:List LV)(ls:List Lay)(hO:Net3 ls (dOf ls))(w:World)(h:Hp)(g:G w h)(hA:SlO 3 lvc lvd h A ts)(hN:RNetL h ts ls) :
    Calls Tryz.prog 31 #[.agg #[.slice A ts.length cap]] w (Ret w h fun v h1=>∃ A c,v=.slice A (sizesq ls).length c∧(sizesq ls).length≤c∧SlO 1 natc 0 h1 A (sizesq ls)):=by
 have hs:=SS.start g
 replace hs:=((hs.a_SlO hA).add (K:=fun h_=>RNetL h_ ts ls) hN)
 have hl:=(hs.f.1).len
 obtain ⟨o1,o2⟩:=hO.len
 have o3:=hO.first
 refine go Tryz.func31 [(0,.agg #[.slice A ts.length cap])] rfl ?_
 refine cSL (lA 1 49 ([.slice A ts.length cap]) hs (fun b1 w2 h3 hs=>?_))
 refine lL hs [.v 2 (.slice none 0 0)] (lNS (lL hs [.v 5 (.pointer (some ⟨b1,0,none⟩)),.o 6 (.slice A ts.length cap) 0 0 1] (lX 7 A ts.length cap 3 0 0 ((hs.f.2.1).ok oM) ?_)))
 refine lL hs [.v 8 (.pointer (some ⟨(aB A),aO A+0*3+1,none⟩))] ?_
 obtain ⟨mtx,lbx,r12x,kdx⟩:=hO.lay 0 oM
 obtain ⟨ekx,⟨AWx,cWx,usx,eWx,hcWx,hAWx,hTWx⟩,⟨ABx,cBx,rsx,eBx,hcBx,hABx,hTBx⟩⟩:=(hs.f.1).at_ 0 oM
 replace hs:=((((hs.a_SlO hAWx).add (K:=fun h_=>RVs h_ usx (ls.getD 0 lay0).W) hTWx).a_SlO hABx).add (K:=fun h_=>RTs h_ rsx (ls.getD 0 lay0).B) hTBx)
 refine lHe 9 ((ts.getD 0 lvd).2.1) hs (((hs.f.2.2.2.2.2.1).el 0 oM).part 1 1) eWx ?_
 have mrx:=mtx.rows;have mpx:=mtx.rpos;have mcx:=mtx.cpos;have lux:=(hs.f.2.2.1).len;have m0x:=mtx.row 0 oM
 refine lX 10 AWx usx.length cWx 1 0 0 ((hs.f.2.2.2.1).ok oM) ?_
 obtain ⟨Arp,crp,trp,erp,hcrp,hRrp,hTrp⟩:=(hs.f.2.2.1).at_ 0 oM
 have hlrp:=hTrp.len
 replace hs:=((hs.a_SlO hRrp).add (K:=fun h_=>RTs h_ trp (((ls.getD 0 lay0).W).getD 0 [])) hTrp)
 refine lHe 11 (usx.getD 0 undef) hs ((hs.f.2.2.2.2.2.1).el 0 oM) erp ?_
 refine lL hs [.v 12 (.int .i64 (trp.length:Nat))] (lRw 13 3 1 natc ([trp.length]:List Nat) hs (fun b4 w5 h6 hs=>?_))
 refine lL hs [.m 3 13] (lN (CG.seq (cSL (lL hs [.v 4 (.int .i64 0)] (lN (CG.block (cTo [(1,.pointer (some ⟨b1,0,none⟩)),(2,.slice none 0 0),(4,.int .i64 0),(3,.slice (some ⟨b4,0,none⟩) ((([trp.length]:List Nat)).length) ((([trp.length]:List Nat)).length))] ?_)))))))
 refine CG.loop (fun μ_ Γ w_=>∃ (k:Nat) (sA:Option Addr) (sc:Nat) (zl:List Nat) (h_:Hp),μ_=ls.length-k∧Γ=[(1,.pointer (some ⟨b1,0,none⟩)),(2,.slice none 0 0),(4,.int .i64 (k:Nat)),(3,.slice sA ((zl).length) sc)]∧SS w h w_ h_ [⟨b1,49,[.slice A ts.length cap]⟩] [⟨3,1,sA,sc,(zl).length,(zl).flatMap natc⟩] [fun h_=>RTs h_ trp (((ls.getD 0 lay0).W).getD 0 []),fun h_=>SlO 3 rqc rqd h_ Arp trp,fun h_=>RTs h_ rsx (ls.getD 0 lay0).B,fun h_=>SlO 3 rqc rqd h_ ABx rsx,fun h_=>RVs h_ usx (ls.getD 0 lay0).W,fun h_=>SlO 1 vc undef h_ AWx usx,fun h_=>RNetL h_ ts ls,fun h_=>SlO 3 lvc lvd h_ A ts]∧(k≤ls.length)∧(zl=dOf ls 0::(ls.take k).map (·.W.length))) _ ⟨0,some ⟨b4,0,none⟩,(([trp.length]:List Nat)).length,([trp.length]:List Nat),h6,rfl,rfl,hs.to _ _,Nat.zero_le _,(by rw[hlrp];rfl)⟩ ?_
 rintro _ _ w9 ⟨k,sA,sc,zl,h10,hm11,rfl,hs,hk,hzl⟩
 have hzz:zl.length=k+1:=by rw[hzl];simp;omega
 refine CG.seq (cSL (lL hs [.m 14 4,.v 15 (.pointer (some ⟨b1,0,none⟩)),.o 16 (.slice A ts.length cap) 0 0 1,.v 17 (.int .i64 (ts.length:Nat))] ?_))
 cases hb12:(decide (((k:Nat):Int)<((ts.length:Nat):Int)))
 ·
  have phb12:=oF hb12
  refine lB 18 hb12 ?_
  refine lN (cIF (CG.exit ?_))
  show CG _ _ _ _ _ _ _ _
  refine cSL (lL hs [.m 31 3,.m 2 31] (lN (CG.ret ?_)))
  have hkn:k=ls.length:=by omega
  have hzs:zl=sizesq ls:=by rw[hzl,hkn,List.take_length];rfl
  obtain ⟨h13,hs,hc14⟩:=hs.pubr 0 (A:=sA) (c:=sc) (l:=zl) (f:=natc) (ty:=3) (sz:=1) 0 (fun _=>rfl)
  exact hs.ret [] (.slice sA ((zl).length) sc) (by rw[←hzs];exact ⟨_,_,rfl,hc14,(hs.f.1)⟩)
 have phb12:=oT hb12
 refine lB 18 hb12 ?_
 refine lN (cIT (CG.skipN (CG.seq (CG.block (CG.listed (lL hs [.m 21 3,.v 22 (.pointer (some ⟨b1,0,none⟩)),.o 23 (.slice A ts.length cap) 0 0 1,.m 24 4] (lX 25 A ts.length cap 3 (k:Nat) k ((hs.f.2.2.2.2.2.2.2.1).ok oM) ?_)))))))
 refine lL hs [.v 26 (.pointer (some ⟨(aB A),aO A+k*3+1,none⟩))] ?_
 obtain ⟨mty,lby,r12y,kdy⟩:=hO.lay k oM
 obtain ⟨eky,⟨AWy,cWy,usy,eWy,hcWy,hAWy,hTWy⟩,⟨ABy,cBy,rsy,eBy,hcBy,hABy,hTBy⟩⟩:=(hs.f.2.2.2.2.2.2.1).at_ k oM
 replace hs:=((((hs.a_SlO hAWy).add (K:=fun h_=>RVs h_ usy (ls.getD k lay0).W) hTWy).a_SlO hABy).add (K:=fun h_=>RTs h_ rsy (ls.getD k lay0).B) hTBy)
 refine lHe 27 ((ts.getD k lvd).2.1) hs (((hs.f.2.2.2.2.2.2.2.2.2.2.2.1).el k oM).part 1 1) eWy ?_
 have mry:=mty.rows;have mpy:=mty.rpos;have mcy:=mty.cpos;have luy:=(hs.f.2.2.1).len;have m0y:=mty.row 0 oM
 refine lL hs [.v 28 (.int .i64 (usy.length:Nat))] (lR 29 3 1 ([.int .i64 (usy.length:Nat)]) hs (fun b16 w17 h18 hs=>?_))
 refine lY 30 0 3 1 sc sA zl natc usy.length 8 b16 (.int .i64 0) hs (hs.f.1) (fun A20 c21 w22 h23 hs=>?_)
 refine lL hs [.m 3 30] (lN (CG.listed (lL hs [.m 19 4] (lIn 20 ((k:Nat)+1) (k+1) ?_))))
 refine lL hs [.m 4 20] (lD ?_)
 intro a_ ka
 have q25:(k+1)≤ls.length:=by omega
 have q26:(zl++[usy.length])=dOf ls 0::(ls.take (k+1)).map (·.W.length):=(by rw[take_snoc' lay0 oM,List.map_append,hzl,luy];rfl)
 replace hs:=hs.tl.tl.tl.tl.tl
 refine ⟨_,_,?_,⟨k+1,A20,c21,zl++[usy.length],h23,rfl,rfl,hs.to _ _,q25,q26⟩,ka.to [(1,.pointer (some ⟨b1,0,none⟩)),(2,.slice none 0 0),(4,.int .i64 ((k+1):Nat)),(3,.slice A20 (((zl++[usy.length])).length) c21)] kR⟩
 omega
theorem Seg.runF {α:Type}{K:Nat}{P:Program}{w w':World}{h:Hp}{b o:Nat}{cs:List Value}{s:Sem α}{r:α}(sg:Seg h b o cs)(g:G w h)(hK:w.heap.size≤K)(x:Mo [K] w w')(he:evalL P s cs=some (r,mka b o cs.length)):s.run P w'=.ok r w' :=
  evalL_run _ _ _ _ he (fun i a v ha hv=>by
    rw[mka_get _ _ _ _ _ ha]
    have e:=sg i v hv
    have hc:=hcell_w g e
    have hl:b<w.heap.size:=by
      rcases Nat.lt_or_ge b w.heap.size with hl|hl
      · exact hl
      · unfold World.cell? at hc;rw[Array.getElem?_eq_none hl] at hc;cases hc
    have hb:=x.blk b hl (fun hm=>by have:=List.mem_singleton.1 hm;omega)
    unfold World.cell? at hc ⊢
    rw[hb];exact hc)
section fut
variable {P:Program} {n:Nat} {N R:Po} {X:Nat→Po} {ops:Array Oper} {k0 K:Nat} {L:Array Bool} {Γ:Env} {w:World} {h:Hp} {w0:World} {h0:Hp} {B:List Bx} {Rs:List Rw} {F:List (Hp→Prop)}
theorem fHe (i t:Nat)(v:Value){u:Value}{b o:Nat}{cs:List Value}(s:SS w0 h0 w h B Rs F)(hK:w.heap.size≤K)(sg:Seg h b o cs)(e:v=u)(H:AG ⟨[K],none⟩ P n N R X ops k0 (L.setIfInBounds i true) ((t,u)::Γ) w)(hc:cEl n ops k0 [] L Γ i t=true:=by kernel_rfl)(he:evalL P (execOp (ev Γ) (opAt ops i)) cs=some (.value v,mka b o cs.length):=by kernel_rfl):AG ⟨[K],none⟩ P n N R X ops k0 L Γ w :=
  aL i t u (fun _ hx=>e▸Seg.runF sg s.g hK hx he) H hc
theorem fRq (i t j:Nat)(v:Value)(ds:List Value){ty:TypeId}{sz c m b o:Nat}{cs:List Value}(s:SS w0 h0 w h B Rs F)(hK:w.heap.size≤K)(hds:(cs.drop o).take ds.length=ds)(H:AG ⟨[K],none⟩ P n N R X ops k0 (L.setIfInBounds i true) ((t,v)::Γ) w)(hr':Rs.getD j default=⟨ty,sz,some ⟨b,0,none⟩,c,m,cs⟩:=by kernel_rfl)(hj:decide (j<Rs.length)=true:=by kernel_rfl)(hc:cEl n ops k0 [] L Γ i t=true:=by kernel_rfl)(he:evalL P (execOp (ev Γ) (opAt ops i)) ds=some (.value v,mka b o ds.length):=by kernel_rfl):AG ⟨[K],none⟩ P n N R X ops k0 L Γ w:=by
  obtain ⟨vs,ho,hv,_⟩:=s.rowO j hr' (oT hj)
  have hn:b ∉ [K]:=fun hm=>by have:=List.mem_singleton.1 hm;have:=ho.lt;omega
  exact aL i t v (fun w' hx=>evalL_run _ _ _ _ he (fun q a v ha hv'=>by rw[mka_get _ _ _ _ _ ha,(ho.mo hx hn).cell];exact take_get hv (take_drop_get hds q v hv'))) H hc
theorem fEv {M:Ms}(i t:Nat)(v:Value)(w':World)(hm:Mo M.l w w')(H:AG M P n N R X ops k0 (L.setIfInBounds i true) ((t,v)::Γ) w')(hr:(execOp (ev Γ) (opAt ops i)).run P w=.ok (.value v) w')(hc:(chkK ops k0 L i && knownOp Γ (opAt ops i) && ((opAt ops i).dst == some t) && decide (t<n))=true)(hw:wantE ops Γ (opAt ops i)=some true):AG M P n N R X ops k0 L Γ w:=by
  simp only[Bool.and_eq_true,decide_eq_true_eq,beq_iff_eq] at hc
  obtain ⟨⟨⟨h1,h2⟩,h3⟩,h4⟩:=hc
  unfold chkK at h1
  simp only[Bool.and_eq_true,decide_eq_true_eq,beq_iff_eq] at h1
  have hg:=opAt_get (ops:=ops) h1.1.1.1
  intro a ka
  refine A.intro (fun h0=>by rw[h1.2] at h0;cases h0) (fun j hj=>?_)
  rw[h1.2,List.mem_singleton] at hj
  subst hj
  refine OpR.wpOp (R:=fun u w1=>u=v∧w1=w') hg ⟨ka.want hw,.inl ⟨v,w',?_,rfl,rfl⟩⟩ (fun u w1 hq=>⟨Rl.mo h1.1.1.2 (hq.2▸hm),?_⟩)
  · rw[ka.exec (Region.noSelect_spec h1.1.2 j _ · · hg) h2];exact hr
  · rw[h3,hq.1,hq.2];exact H _ (ka.put h4 v)
theorem fR {M:Ms}(i t:Nat)(ty:TypeId)(m:Nat)(cs:List Value)(s:SS w0 h0 w h B Rs F)(H:∀ b w' h',w'.heap.size=w.heap.size+1→SS w0 h0 w' h' B Rs ((fun h=>Seg h b 0 cs)::F)→AG M P n N R X ops k0 (L.setIfInBounds i true) ((t,.slice (some ⟨b,0,none⟩) m m)::Γ) w')(hc:(chkK ops k0 L i && knownOp Γ (opAt ops i) && ((opAt ops i).dst == some t) && decide (t<n))=true:=by kernel_rfl)(hw:wantE ops Γ (opAt ops i)=some true:=by kernel_rfl)
    (hr:(execOp (ev Γ) (opAt ops i)).run P w=.ok (.value (.slice (some ⟨w.heap.size,0,none⟩) m m)) (w.alloc (.cells cs.toArray ty (0,0))):=by kernel_rfl):AG M P n N R X ops k0 L Γ w :=
  fEv i t _ _ ((Up.allocAny s.g _ _ (.inl rfl)).ext.mo M.l) (H _ _ _ (by rw[heap_alloc,Array.size_push]) ((s.step (Up.allocAny s.g _ _ (.inl rfl))).a_Seg (by rw[s.g.size];exact Seg.new cs ty))) hr hc hw
theorem fYz {M:Ms}{α:Type}(i t:Nat)(ty:TypeId)(sz:Nat)(f:α→List Value)(d:α)(b0:Nat)(A2:Option Addr)(m:List α)(c2 bt:Nat)(z:Value)(s:SS w0 h0 w h B Rs F)(so:SlO sz f d h A2 m)(hm0:0<m.length)(h1:∀ x∈m,(f x).all (·.oneCell')=true)
    (H:∀ A' c' w' h',(∀ b,(Value.slice A' m.length c').ownBlock=some b→b=w.heap.size)→SS w0 h0 w' h' B (⟨ty,sz,A',c',m.length,m.flatMap f⟩::Rs) F→AG M P n N R X ops k0 (L.setIfInBounds i true) ((t,.slice A' m.length c')::Γ) w')
    (hc:(chkK ops k0 L i && knownOp Γ (opAt ops i) && ((opAt ops i).dst == some t) && decide (t<n))=true:=by kernel_rfl)(hw:wantE ops Γ (opAt ops i)=some true:=by kernel_rfl)(he:apE P (ev Γ) (opAt ops i)=some (.slice (some ⟨b0,0,none⟩) 0 0,.slice A2 m.length c2,ty,z,sz,bt):=by kernel_rfl)(hf:∀ x,(f x).length=sz:=by intro _;rfl)(hzs:z.cells.size=sz:=by kernel_rfl)(hpos:0<sz:=by decide)(hm:m.length≤1099511627776:=by omega)(hb:m.length*bt≤140737488355328:=by omega):AG M P n N R X ops k0 L Γ w:=by
  rw[so.ok hm0] at he
  obtain ⟨x',y,ty',ho,hx,hy,hu,hi⟩:=apE_op he
  obtain ⟨v',w',hrun,ow,gr,hloc⟩:=app_runE (P:=P) ho hx hy hu hi hzs hpos s.st (len_flat hf m) (seg_newsO s.g (so.flat hf)) (fun u hu=>by
    obtain ⟨x,hx',hx⟩:=List.mem_flatMap.1 hu
    exact (List.all_eq_true.1 (h1 x hx')) u hx) hm0 hm hb
  obtain ⟨h',A',c',rfl,e2,s'⟩:=(s.nil ty sz).grown (j:=0) (by simp) (w':=w') (v':=v') (m2:=m.length) (news:=m.flatMap f) ow gr hloc
  have hrun':(execOp (ev Γ) (opAt ops i)).run P w=.ok (.value (.slice A' m.length c')) w':=by rw[hrun];simp
  refine fEv i t _ w' ⟨gr.os,gr.tape,gr.output,gr.size,fun c hc _=>gr.block c hc (by simp[Value.ownBlock])⟩ (H A' c' w' h' ?_ (by simpa using s')) hrun' hc hw
  intro b hb'
  rcases hloc with e|e
  · have e3:some b=(Value.slice none 0 0).ownBlock:=hb'.symm.trans (by simpa [Value.ownBlock] using e)
    simp[Value.ownBlock] at e3
  · have e3:some b=some w.heap.size:=hb'.symm.trans (by simpa [Value.ownBlock] using e)
    injection e3
theorem fY {M:Ms}{α:Type}(i t j:Nat)(ty:TypeId)(sz c:Nat)(A:Option Addr)(l:List α)(f:α→List Value)(x:α)(bt b:Nat)(z:Value)(s:SS w0 h0 w h B Rs F)(sg:Seg h b 0 (f x))(hMv:∀ b,(Value.slice A l.length c).ownBlock=some b→b∈M.l)
    (H:∀ A' c' w' h',SS w0 h0 w' h' B (Rs.set j ⟨ty,sz,A',c',(l++[x]).length,(l++[x]).flatMap f⟩) F→AG M P n N R X ops k0 (L.setIfInBounds i true) ((t,.slice A' (l++[x]).length c')::Γ) w')
    (hc:(chkK ops k0 L i && knownOp Γ (opAt ops i) && ((opAt ops i).dst == some t) && decide (t<n))=true:=by kernel_rfl)(hw:wantE ops Γ (opAt ops i)=some true:=by kernel_rfl)(he:apE P (ev Γ) (opAt ops i)=some (.slice A l.length c,.slice (some ⟨b,0,none⟩) 1 1,ty,z,sz,bt):=by kernel_rfl)(hzs:z.cells.size=sz:=by kernel_rfl)(hpos:0<sz:=by decide)
    (hr':Rs.getD j default=⟨ty,sz,A,c,l.length,l.flatMap f⟩:=by kernel_rfl)(hj:decide (j<Rs.length)=true:=by kernel_rfl)(h1:(f x).all (·.oneCell')=true:=by kernel_rfl)(hl:(f x).length=1*sz:=by kernel_rfl)(hm:l.length+1≤1099511627776:=by omega)(hb:(l.length+1)*bt≤140737488355328:=by omega):AG M P n N R X ops k0 L Γ w:=by
  have hj':=oT hj
  obtain ⟨x',y,ty',ho,hx,hy,hu,hi⟩:=apE_op he
  have r:=s.ro _ (List.getElem_mem hj')
  have er:=rw_get hr' hj'
  rw[er] at r
  obtain ⟨v',w',hrun,ow,gr,hloc⟩:=app_run (P:=P) ho hx hy hu hi hzs hpos s.st r hl (seg_news s.g sg) (fun u hu=>(List.all_eq_true.1 h1) u hu) hm hb
  have hg:=s.grown (j:=j) hj' (w':=w') (v':=v') (m2:=1) (news:=f x) (by rw[er];exact ow) (by rw[er];exact gr) (by rw[er];exact hloc)
  rw[er] at hg
  obtain ⟨h',A',c',rfl,e2,s'⟩:=hg
  have e1:l.length+1=(l++[x]).length:=by simp
  simp only[] at s'
  rw[snoc_row,e1] at s'
  rw[e1] at hrun
  exact fEv i t _ w' ⟨gr.os,gr.tape,gr.output,gr.size,fun c hc hn=>gr.block c hc (fun e=>hn (hMv c e.symm))⟩ (H A' c' w' h' s') hrun hc hw
end fut
theorem getD_drop_ {α:Type}{l:List α}{n i:Nat}{d:α}:(l.drop n).getD i d=l.getD (n+i) d:=by simp[List.getD_eq_getElem?_getD]
theorem rts_drop {h:Hp}{ts:List RT}{qs:List Rat}(r:RTs h ts qs):RTs h (ts.drop 1) (qs.drop 1):=⟨by rw[List.length_drop,List.length_drop,r.len],fun i hi=>by rw[List.length_drop] at hi;rw[getD_drop_,getD_drop_];exact r.at_ _ oM⟩
theorem rvs_drop {h:Hp}{us:List Value}{W:List (List Rat)}(r:RVs h us W):RVs h (us.drop 1) (W.drop 1):=⟨by rw[List.length_drop,List.length_drop,r.len],fun i hi=>by rw[List.length_drop] at hi;rw[getD_drop_,getD_drop_];exact r.at_ _ oM⟩
theorem rnet_drop {h:Hp}{ts:List LV}{ls:List Lay}(r:RNetL h ts ls):RNetL h (ts.drop 1) (ls.drop 1):=⟨by rw[List.length_drop,List.length_drop,r.len],fun i hi=>by rw[List.length_drop] at hi;rw[getD_drop_,getD_drop_];exact r.at_ _ oM⟩
theorem getD_app_ {α:Type}{a b:List α}{i:Nat}{d:α}:(a++b).getD i d=if i<a.length then a.getD i d else b.getD (i-a.length) d:=by
  simp only[List.getD_eq_getElem?_getD,List.getElem?_append];split<;>rfl
theorem rnet_app {h:Hp}{ts ts2:List LV}{ls ls2:List Lay}(r:RNetL h ts ls)(r2:RNetL h ts2 ls2):RNetL h (ts++ts2) (ls++ls2):=⟨by rw[List.length_append,List.length_append,r.len,r2.len],fun i hi=>by
  rw[List.length_append] at hi
  rw[getD_app_,getD_app_,r.len]
  split
  · exact r.at_ i aM
  · exact r2.at_ _ oM⟩
theorem getD_set_ {α:Type}{l:List α}{n i:Nat}{d x:α}(h:n<l.length):(l.set n x).getD i d=if i=n then x else l.getD i d:=by
  split
  · rename_i e;subst e;simp[h]
  · rename_i e;rw[List.getD_eq_getElem?_getD,List.getElem?_set_ne (Ne.symm e),←List.getD_eq_getElem?_getD]
theorem rnet_set {h:Hp}{ts:List LV}{ls:List Lay}(r:RNetL h ts ls)(k:Nat)(hk:k<ls.length){t:LV}{L:Lay}(hx:t.1=L.k∧(∃ A c,∃ us:List Value,t.2.1=.slice A us.length c∧us.length≤c∧SlO 1 vc undef h A us∧RVs h us L.W) ∧
    (∃ A c,∃ rs:List RT,t.2.2=.slice A rs.length c∧rs.length≤c∧SlO 3 rqc rqd h A rs∧RTs h rs L.B)):RNetL h (ts.set k t) (ls.set k L):=⟨by rw[List.length_set,List.length_set,r.len],fun i hi=>by
  rw[List.length_set] at hi
  rw[getD_set_ (by rw[r.len];exact hk),getD_set_ hk]
  split
  · exact hx
  · exact r.at_ i hi⟩
end Go.Proofs.YtphakaomkmhbaaaGreatDoor
