/- Laws and contracts that the card of this claim stands on, part 5. No condition of ours. -/
import Derived.Test.YtnbjahmpennmkaaGreatDoorPp0
import Derived.Test.YtnbjahmpennmkaaGreatDoorPp1
import Derived.Test.YtnbjahmpennmkaaGreatDoorPp2
import Derived.Test.YtnbjahmpennmkaaGreatDoorPp3
set_option maxRecDepth 100000
set_option maxHeartbeats 4000000
namespace Go.Proofs.YtnbjahmpennmkaaGreatDoor
open Go.RowKit
open Go.RowKit Go.Shelf
theorem fCmpWN (a b:Rat)(ha:LQ 100000000 a)(hb:LQ 100000000 b)(hwa:a.den=1)(hwb:b.den≠1)(w:World)(h:Hp)(g:G w h) :
    Calls Tryz.prog 20 #[qv a,qv b] w (Ret w h fun v _=>v=.int .i64 (cmpR a b)):=by
 have hs:=SS.start g
 have ha_:=ha
 have hb_:=hb
 obtain ⟨ha1,ha2⟩:=ha_
 obtain ⟨hb1,hb2⟩:=hb_
 have hx1:=len_imul a.num b.den
 have hx2:=len_imul b.num a.den
 refine go Tryz.func20 [(0,qv a),(1,qv b)] rfl ?_
 refine cSL (lA 2 56 (qc a) hs (fun b1 w2 h3 hs=>?_))
 refine lA 3 56 (qc b) hs (fun b4 w5 h6 hs=>?_)
 refine lL hs [.v 4 (.int .i64 0)] (lN (CG.seq (CG.seq (cR 13 [] mixed hs al_nil ?_))))
 refine eO 0 5 [(1,0,5)] (qv a) hs ?_
 refine eC 1 6 hs (fun _ _ hs=>fIsWholeT a aM aM _ _ hs.g) ?_
 rintro _ _ _ w7 h8 hs rfl
 refine eV 2 7 (.bool true) ?_
 refine eO 3 8 [(0,0,5)] (qv b) hs ?_
 refine eC 4 9 hs (fun _ _ hs=>fIsWholeF b aM aM _ _ hs.g) ?_
 rintro _ _ _ w9 h10 hs rfl
 refine eV 5 10 (.bool false) ?_
 refine eV 6 11 (.bool false) ?_
 refine eO 7 12 [(1,0,5)] (qv a) hs ?_
 refine eO 9 14 [(0,0,5)] (qv b) hs ?_
 refine eC 8 13 hs (fun _ _ hs=>fSign a aM _ _ hs.g) ?_
 rintro _ _ _ w11 h12 hs rfl
 refine eC 10 15 hs (fun _ _ hs=>fSign b aM _ _ hs.g) ?_
 rintro _ _ _ w13 h14 hs rfl
 cases hb15:(((a.num).sign:Int) != ((b.num).sign:Int))
 ·
  have phb15:=eqOfBne hb15
  refine eB 11 16 hb15 ?_
  refine eV 12 17 (.bool false) ?_
  refine eD0 hs (fun w16 h17 hs=>?_)
  refine tN (cIF (CG.skipN (CG.seq (cR 11 [] mixed hs al_nil ?_))))
  refine eV 0 23 (.pointer (some ⟨b1,0,none⟩)) ?_
  refine eO 1 24 [(1,0,3)] (iv a.num) hs ?_
  refine eO 2 25 [(0,0,5)] (qv b) hs ?_
  refine eV 5 28 (.pointer (some ⟨b4,0,none⟩)) ?_
  refine eO 6 29 [(0,0,3)] (iv b.num) hs ?_
  refine eO 7 30 [(1,0,5)] (qv a) hs ?_
  refine eC 3 26 hs (fun _ _ hs=>fDen b aM _ _ hs.g) ?_
  rintro _ _ _ w18 h19 hs rfl
  refine eC 4 27 hs (fun _ _ hs=>fTimes a.num b.den aOM _ _ hs.g) ?_
  rintro _ _ _ w20 h21 hs rfl
  refine eC 8 31 hs (fun _ _ hs=>fDen a aM _ _ hs.g) ?_
  rintro _ _ _ w22 h23 hs rfl
  refine eC 9 32 hs (fun _ _ hs=>fTimes b.num a.den aOM _ _ hs.g) ?_
  rintro _ _ _ w24 h25 hs rfl
  refine eC 10 33 hs (fun _ _ hs=>wCmp (a.num*((b.den:Nat):Int)) (b.num*((a.den:Nat):Int)) aOM aOM _ _ hs.g) ?_
  rintro _ _ _ w26 h27 hs rfl
  refine eD0 hs (fun w28 h29 hs=>?_)
  refine tV 11 4 (.int .i64 (cmpI (a.num*((b.den:Nat):Int)) (b.num*((a.den:Nat):Int)))) ?_
  exact tN (CG.ret (hs.ret [] (.int .i64 (cmpI (a.num*((b.den:Nat):Int)) (b.num*((a.den:Nat):Int)))) (congrArg (Value.int .i64) (by first|rfl|exact cmpR_whole hwa hwb|exact cmpR_sign ‹_›))))
 have phb15:=neOfBne hb15
 refine eB 11 16 hb15 ?_
 refine eV 12 17 (.bool true) ?_
 refine eD0 hs (fun w30 h31 hs=>?_)
 refine tN (cIT (cSL (lL hs [.v 18 (.pointer (some ⟨b1,0,none⟩)),.o 19 (iv a.num) 1 0 3,.v 20 (.pointer (some ⟨b4,0,none⟩)),.o 21 (iv b.num) 0 0 3] (lC 22 hs (wCmp a.num b.num aOM aOM _ _ hs.g) ?_))))
 rintro _ w32 h33 hs rfl
 exact lL hs [.m 4 22] (lN (CG.ret (hs.ret [] (.int .i64 (cmpI a.num b.num)) (congrArg (Value.int .i64) (by first|rfl|exact cmpR_whole hwa hwb|exact cmpR_sign ‹_›)))))
theorem fCmp (a b:Rat)(ha:LQ 100000000 a)(hb:LQ 100000000 b)(w:World)(h:Hp)(g:G w h):Calls Tryz.prog 20 #[qv a,qv b] w (Ret w h fun v _=>v=.int .i64 (cmpR a b)):=by
  by_cases h1:a.den=1
  · by_cases h2:b.den=1
    · exact fCmpWW a b ha hb h1 h2 w h g
    · exact fCmpWN a b ha hb h1 h2 w h g
  · exact fCmpNN a b ha hb h1 w h g
def mkR (n d:Int):Rat:=mkRat (if d<0 then -n else n) (iabs d)
theorem fMakeN (n d:Int)(hd:d<0)(hla:(wds (iabs n)).length≤1000000000)(hlb:(wds (iabs d)).length≤1000000000)(w:World)(h:Hp)(g:G w h)(tb:Tab h) :
    Calls Tryz.prog 79 #[iv n,iv d] w (Ret w h fun v _=>v=.tuple #[qv (mkR n d),.bool true]):=by
 have hs:=SS.start g
 replace hs:=(hs.add (K:=fun h_=>Tab h_) tb)
 have hds:=Int.sign_eq_neg_one_of_neg hd
 have hd0:0<iabs d:=by unfold iabs;omega
 have hln:(wds (iabs (-n))).length≤1000000000:=by unfold iabs;rw[Int.natAbs_neg];exact hla
 refine go Tryz.func79 [(0,iv n),(1,iv d)] rfl ?_
 refine cSL (lA 2 54 (ic n) hs (fun b1 w2 h3 hs=>?_))
 refine lA 3 54 (ic d) hs (fun b4 w5 h6 hs=>?_)
 refine lA 4 56 ([.bool false,.int .u64 0,.string ⟨#[]⟩,.int .u64 0,.string ⟨#[]⟩]) hs (fun b7 w8 h9 hs=>?_)
 refine lL hs [.v 5 (.bool false)] (lN (CG.seq (cSL (lL hs [.o 6 (iv d) 1 0 3] (lC 7 hs (wSign d aOM _ _ hs.g) ?_)))))
 rintro _ w10 h11 hs rfl
 have hb12:(((d).sign:Int) == (0:Int))=false:=beqF oM
 have phb12:=neOfBeq hb12
 refine lB 8 hb12 ?_
 refine lN (cIF (CG.skipN (CG.seq (cSL (lL hs [.o 10 (iv d) 1 0 3] (lC 11 hs (wSign d aOM _ _ hs.g) ?_))))))
 rintro _ w13 h14 hs rfl
 have ⟨hb15,phb15⟩:=dT (p:=((d).sign:Int)<(0:Int)) oM
 refine lB 12 hb15 ?_
 refine lN (cIT (CG.listed (lL hs [.o 13 (iv n) 2 0 3] (lC 14 hs (wNeg n aOM _ _ hs.g) ?_))))
 rintro _ w16 h17 hs rfl
 refine lP 2 0 (ic (-n)) hs (fun w18 hs=>?_)
 refine lN (CG.seq (cR 4 [] mixed hs al_nil ?_))
 refine eO 0 15 [(2,0,3)] (iv (-n)) hs ?_
 refine eO 1 16 [(1,0,3)] (iv d) hs ?_
 refine eC 2 17 hs (fun _ _ hs=>wAbs d _ _ hs.g) ?_
 rintro _ _ _ w19 h20 hs rfl
 refine eC 3 18 hs (fun _ _ hs=>fLowest (-n) (iabs d) aOM aOM aOM _ _ hs.g (hs.f.1)) ?_
 rintro _ _ _ w21 h22 hs rfl
 refine eD0 hs (fun w23 h24 hs=>?_)
 refine tP 4 0 0 (qc (mkRat (-n) (iabs d))) hs (fun w25 hs=>?_)
 refine tV 5 5 (.bool true) ?_
 exact tN (CG.ret (hs.ret [(0,0,5)] (.tuple #[qv (mkRat (-n) (iabs d)),.bool true]) (by unfold mkR;rw[if_pos hd])))
theorem fMakeP (n d:Int)(hd:0<d)(hla:(wds (iabs n)).length≤1000000000)(hlb:(wds (iabs d)).length≤1000000000)(w:World)(h:Hp)(g:G w h)(tb:Tab h) :
    Calls Tryz.prog 79 #[iv n,iv d] w (Ret w h fun v _=>v=.tuple #[qv (mkR n d),.bool true]):=by
 have hs:=SS.start g
 replace hs:=(hs.add (K:=fun h_=>Tab h_) tb)
 have hds:=Int.sign_eq_one_of_pos hd
 have hd0:0<iabs d:=by unfold iabs;omega
 refine go Tryz.func79 [(0,iv n),(1,iv d)] rfl ?_
 refine cSL (lA 2 54 (ic n) hs (fun b1 w2 h3 hs=>?_))
 refine lA 3 54 (ic d) hs (fun b4 w5 h6 hs=>?_)
 refine lA 4 56 ([.bool false,.int .u64 0,.string ⟨#[]⟩,.int .u64 0,.string ⟨#[]⟩]) hs (fun b7 w8 h9 hs=>?_)
 refine lL hs [.v 5 (.bool false)] (lN (CG.seq (cSL (lL hs [.o 6 (iv d) 1 0 3] (lC 7 hs (wSign d aOM _ _ hs.g) ?_)))))
 rintro _ w10 h11 hs rfl
 have hb12:(((d).sign:Int) == (0:Int))=false:=beqF oM
 have phb12:=neOfBeq hb12
 refine lB 8 hb12 ?_
 refine lN (cIF (CG.skipN (CG.seq (cSL (lL hs [.o 10 (iv d) 1 0 3] (lC 11 hs (wSign d aOM _ _ hs.g) ?_))))))
 rintro _ w13 h14 hs rfl
 have ⟨hb15,phb15⟩:=dF (p:=((d).sign:Int)<(0:Int)) oM
 refine lB 12 hb15 ?_
 refine lN (cIF (CG.skipN (CG.seq (cR 4 [] mixed hs al_nil ?_))))
 refine eO 0 15 [(2,0,3)] (iv n) hs ?_
 refine eO 1 16 [(1,0,3)] (iv d) hs ?_
 refine eC 2 17 hs (fun _ _ hs=>wAbs d _ _ hs.g) ?_
 rintro _ _ _ w16 h17 hs rfl
 refine eC 3 18 hs (fun _ _ hs=>fLowest n (iabs d) aOM aOM aOM _ _ hs.g (hs.f.1)) ?_
 rintro _ _ _ w18 h19 hs rfl
 refine eD0 hs (fun w20 h21 hs=>?_)
 refine tP 4 0 0 (qc (mkRat n (iabs d))) hs (fun w22 hs=>?_)
 refine tV 5 5 (.bool true) ?_
 exact tN (CG.ret (hs.ret [(0,0,5)] (.tuple #[qv (mkRat n (iabs d)),.bool true]) (by unfold mkR;rw[if_neg oM])))
theorem fMake (n d:Int)(hd:d≠0)(hla:(wds (iabs n)).length≤1000000000)(hlb:(wds (iabs d)).length≤1000000000)(w:World)(h:Hp)(g:G w h)(tb:Tab h):Calls Tryz.prog 79 #[iv n,iv d] w (Ret w h fun v _=>v=.tuple #[qv (mkR n d),.bool true]):=by
  rcases Int.lt_trichotomy d 0 with h1|h1|h1
  · exact fMakeN n d h1 hla hlb w h g tb
  · exact absurd h1 hd
  · exact fMakeP n d h1 hla hlb w h g tb
theorem fDivN (a b:Rat)(ha:LQ 100000000 a)(hb:LQ 100000000 b)(hz:b.num≠0)(w:World)(h:Hp)(g:G w h)(tb:Tab h) :
    Calls Tryz.prog 35 #[qv a,qv b] w (Ret w h fun v _=>v=.tuple #[qv (a/b),.bool true]):=by
 have hs:=SS.start g
 replace hs:=(hs.add (K:=fun h_=>Tab h_) tb)
 have ha_:=ha
 have hb_:=hb
 obtain ⟨ha1,ha2⟩:=ha_
 obtain ⟨hb1,hb2⟩:=hb_
 have hzs:((b.num).sign == (0:Int))=false:=by simpa using hz
 obtain ⟨hi1,hi2⟩:=rat_inv b hz
 have hsl:(wds (iabs (sgn (decide ((b.num).sign<(0:Int))) b.den))).length≤100000000:=by rw[iabs_sgn];exact hb2
 have hli:LQ 100000000 b⁻¹:=⟨by rw[hi1];exact hsl,by rw[hi2];exact hb1⟩
 have hli2:LQ 1000000000 b⁻¹:=hli.mono oM
 refine go Tryz.func35 [(0,qv a),(1,qv b)] rfl ?_
 refine cSL (lA 2 56 (qc a) hs (fun b1 w2 h3 hs=>?_))
 refine lA 3 56 (qc b) hs (fun b4 w5 h6 hs=>?_)
 refine lA 4 56 ([.bool false,.int .u64 0,.string ⟨#[]⟩,.int .u64 0,.string ⟨#[]⟩]) hs (fun b7 w8 h9 hs=>?_)
 refine lL hs [.v 5 (.bool false)] (lN (CG.seq (cSL (lL hs [.o 6 (qv b) 1 0 5] (lC 7 hs (fSign b aM _ _ hs.g) ?_)))))
 rintro _ w10 h11 hs rfl
 refine lV 8 (.bool false) ?_ (hr:=rb (e:=((b.num).sign == (0:Int))) kR hzs)
 refine lN (cIF (CG.skipN (CG.seq (cR 12 [] mixed hs al_nil ?_))))
 refine eO 0 10 [(2,0,5)] (qv a) hs ?_
 refine eO 1 11 [(1,0,5)] (qv b) hs ?_
 refine eO 4 14 [(1,0,5)] (qv b) hs ?_
 refine eV 7 17 (.pointer (some ⟨b4,0,none⟩)) ?_
 refine eO 8 18 [(1,0,3)] (iv b.num) hs ?_
 refine eC 2 12 hs (fun _ _ hs=>fSign b aM _ _ hs.g) ?_
 rintro _ _ _ w12 h13 hs rfl
 refine eV 3 13 (.bool (decide (((b.num).sign:Int)<(0:Int)))) ?_
 refine eC 5 15 hs (fun _ _ hs=>fDen b aM _ _ hs.g) ?_
 rintro _ _ _ w14 h15 hs rfl
 refine eC 6 16 hs (fun _ _ hs=>wFrom (decide (((b.num).sign:Int)<(0:Int))) b.den aOM _ _ hs.g) ?_
 rintro _ _ _ w16 h17 hs rfl
 refine eC 9 19 hs (fun _ _ hs=>wAbs b.num _ _ hs.g) ?_
 rintro _ _ _ w18 h19 hs rfl
 refine eC 10 20 hs (fun _ _ hs=>fPackE b⁻¹ (sgn (decide (((b.num).sign:Int)<(0:Int))) b.den) (iabs b.num) hi1 hi2.symm aM _ _ hs.g) ?_
 rintro _ _ _ w20 h21 hs rfl
 refine eC 11 21 hs (fun _ _ hs=>fMul a (b⁻¹) aM aM _ _ hs.g (hs.f.1)) ?_
 rintro _ _ _ w22 h23 hs rfl
 refine eD0 hs (fun w24 h25 hs=>?_)
 refine tP 12 0 0 (qc (a*(b⁻¹))) hs (fun w26 hs=>?_)
 refine tV 13 5 (.bool true) ?_
 exact tN (CG.ret (hs.ret [(0,0,5)] (.tuple #[qv (a*(b⁻¹)),.bool true]) (by rw[Rat.div_def])))
theorem rIntMul (x:Int)(A:Option Addr)(c:Nat)(hc:(lim (iabs x)).length≤c)(hLx:(lim (iabs x)).length≤2000000000)(y:Int)(D:Option Addr)(d:Nat)(hd:(lim (iabs y)).length≤d)(hLy:(lim (iabs y)).length≤2000000000)(w:World)(h:Hp)(g:G w h)(hA:SlO 1 u32c 0 h A (lim (iabs x)))(hD:SlO 1 u32c 0 h D (lim (iabs y))) :
    Calls Tryz.prog 89 #[.agg #[.bool (ineg x),.slice A ((lim (iabs x)).length) c],.agg #[.bool (ineg y),.slice D ((lim (iabs y)).length) d]] w (Ret w h fun v h1=>RI h1 v (x*y)):=by
 have hs:=SS.start g
 replace hs:=((hs.a_SlO hA).a_SlO hD)
 refine go Tryz.func89 [(0,.agg #[.bool (ineg x),.slice A ((lim (iabs x)).length) c]),(1,.agg #[.bool (ineg y),.slice D ((lim (iabs y)).length) d])] rfl ?_
 refine cSL (lA 2 72 ([.bool (ineg x),.slice A ((lim (iabs x)).length) c]) hs (fun b1 w2 h3 hs=>?_))
 refine lA 3 72 ([.bool (ineg y),.slice D ((lim (iabs y)).length) d]) hs (fun b4 w5 h6 hs=>?_)
 refine lA 4 72 ([.bool false,.slice none 0 0]) hs (fun b7 w8 h9 hs=>?_)
 refine lN (CG.seq (cR 11 [] mixed hs al_nil ?_))
 refine eV 0 5 (.pointer (some ⟨b1,0,none⟩)) ?_
 refine eO 1 6 [(2,0,1)] (.bool (ineg x)) hs ?_
 refine eV 2 7 (.pointer (some ⟨b4,0,none⟩)) ?_
 refine eO 3 8 [(1,0,1)] (.bool (ineg y)) hs ?_
 refine eV 4 9 (.bool ((ineg x) != (ineg y))) ?_
 refine eV 5 10 (.pointer (some ⟨b1,1,none⟩)) ?_
 refine eO 6 11 [(2,1,1)] (.slice A ((lim (iabs x)).length) c) hs ?_
 refine eV 7 12 (.pointer (some ⟨b4,1,none⟩)) ?_
 refine eO 8 13 [(1,1,1)] (.slice D ((lim (iabs y)).length) d) hs ?_
 refine eC 9 14 hs (fun _ _ hs=>rNatMul (iabs x) A c hc (iabs y) D d hd oM oM _ _ hs.g (hs.f.2.1) (hs.f.1)) ?_
 rintro _ _ _ w14 h15 hs ⟨A10,c11,rfl,hc12,hA13⟩
 replace hs:=(hs.a_SlO hA13)
 refine eC 10 15 hs (fun _ _ hs=>rI ((ineg x) != (ineg y)) ((iabs x)*(iabs y)) A10 c11 hc12 _ _ hs.g (hs.f.1)) ?_
 rintro _ _ _ w20 h21 hs ⟨A16,c17,rfl,hc18,hA19⟩
 replace hs:=(hs.a_SlO hA19)
 refine eD0 hs (fun w22 h23 hs=>?_)
 refine tP 11 0 0 ([.bool (ineg (sgn ((ineg x) != (ineg y)) ((iabs x)*(iabs y)))),.slice A16 ((lim (iabs (sgn ((ineg x) != (ineg y)) ((iabs x)*(iabs y))))).length) c17]) hs (fun w24 hs=>?_)
 exact tN (CG.ret (hs.ret [(0,0,2)] (.agg #[.bool (ineg (sgn ((ineg x) != (ineg y)) ((iabs x)*(iabs y)))),.slice A16 ((lim (iabs (sgn ((ineg x) != (ineg y)) ((iabs x)*(iabs y))))).length) c17]) (by rw[←mul_sg x y];exact ⟨_,_,rfl,hc18,(hs.f.1)⟩)))
theorem rIntAddff (x:Int)(A:Option Addr)(c:Nat)(hc:(lim (iabs x)).length≤c)(hLx:(lim (iabs x)).length≤2000000000)(y:Int)(D:Option Addr)(d:Nat)(hd:(lim (iabs y)).length≤d)(hLy:(lim (iabs y)).length≤2000000000)(hx:ineg x=false)(hy:ineg y=false)(w:World)(h:Hp)(g:G w h)(hA:SlO 1 u32c 0 h A (lim (iabs x)))(hD:SlO 1 u32c 0 h D (lim (iabs y))) :
    Calls Tryz.prog 118 #[.agg #[.bool false,.slice A ((lim (iabs x)).length) c],.agg #[.bool false,.slice D ((lim (iabs y)).length) d]] w (Ret w h fun v h1=>RI h1 v (x+y)):=by
 have hs:=SS.start g
 replace hs:=((hs.a_SlO hA).a_SlO hD)
 have hx_:=ineg_false hx
 have hy_:=ineg_false hy
 refine go Tryz.func118 [(0,.agg #[.bool false,.slice A ((lim (iabs x)).length) c]),(1,.agg #[.bool false,.slice D ((lim (iabs y)).length) d])] rfl ?_
 refine cSL (lA 2 72 ([.bool false,.slice A ((lim (iabs x)).length) c]) hs (fun b1 w2 h3 hs=>?_))
 refine lA 3 72 ([.bool false,.slice D ((lim (iabs y)).length) d]) hs (fun b4 w5 h6 hs=>?_)
 refine lA 4 72 ([.bool false,.slice none 0 0]) hs (fun b7 w8 h9 hs=>?_)
 refine lN (CG.seq (cSL (lL hs [.v 5 (.pointer (some ⟨b1,0,none⟩)),.o 6 (.bool false) 2 0 1,.v 7 (.pointer (some ⟨b4,0,none⟩)),.o 8 (.bool false) 1 0 1,.v 9 (.bool true)] (lN (cIT (CG.seq (cR 8 [] mixed hs al_nil ?_)))))))
 refine eV 0 10 (.pointer (some ⟨b1,0,none⟩)) ?_
 refine eO 1 11 [(2,0,1)] (.bool false) hs ?_
 refine eV 2 12 (.pointer (some ⟨b1,1,none⟩)) ?_
 refine eO 3 13 [(2,1,1)] (.slice A ((lim (iabs x)).length) c) hs ?_
 refine eV 4 14 (.pointer (some ⟨b4,1,none⟩)) ?_
 refine eO 5 15 [(1,1,1)] (.slice D ((lim (iabs y)).length) d) hs ?_
 refine eC 6 16 hs (fun _ _ hs=>rNatAdd (iabs x) A c hc (iabs y) D d hd oM oM _ _ hs.g (hs.f.2.1) (hs.f.1)) ?_
 rintro _ _ _ w14 h15 hs ⟨A10,c11,rfl,hc12,hA13⟩
 replace hs:=(hs.a_SlO hA13)
 refine eC 7 17 hs (fun _ _ hs=>rI false ((iabs x)+(iabs y)) A10 c11 hc12 _ _ hs.g (hs.f.1)) ?_
 rintro _ _ _ w20 h21 hs ⟨A16,c17,rfl,hc18,hA19⟩
 replace hs:=(hs.a_SlO hA19)
 refine eD0 hs (fun w22 h23 hs=>?_)
 refine tP 8 0 0 ([.bool (ineg (sgn false ((iabs x)+(iabs y)))),.slice A16 ((lim (iabs (sgn false ((iabs x)+(iabs y))))).length) c17]) hs (fun w24 hs=>?_)
 exact tN (CG.ret (hs.ret [(0,0,2)] (.agg #[.bool (ineg (sgn false ((iabs x)+(iabs y)))),.slice A16 ((lim (iabs (sgn false ((iabs x)+(iabs y))))).length) c17]) (by rw[show x+y=(sgn false ((iabs x)+(iabs y))) by unfold sgn iabs at *;simp;omega];exact ⟨_,_,rfl,hc18,(hs.f.1)⟩)))
theorem rIntAddft (x:Int)(A:Option Addr)(c:Nat)(hc:(lim (iabs x)).length≤c)(hLx:(lim (iabs x)).length≤2000000000)(y:Int)(D:Option Addr)(d:Nat)(hd:(lim (iabs y)).length≤d)(hLy:(lim (iabs y)).length≤2000000000)(hx:ineg x=false)(hy:ineg y=true)(w:World)(h:Hp)(g:G w h)(hA:SlO 1 u32c 0 h A (lim (iabs x)))(hD:SlO 1 u32c 0 h D (lim (iabs y))) :
    Calls Tryz.prog 118 #[.agg #[.bool false,.slice A ((lim (iabs x)).length) c],.agg #[.bool true,.slice D ((lim (iabs y)).length) d]] w (Ret w h fun v h1=>RI h1 v (x+y)):=by
 have hs:=SS.start g
 replace hs:=((hs.a_SlO hA).a_SlO hD)
 have hx_:=ineg_false hx
 have hy_:=ineg_true hy
 refine go Tryz.func118 [(0,.agg #[.bool false,.slice A ((lim (iabs x)).length) c]),(1,.agg #[.bool true,.slice D ((lim (iabs y)).length) d])] rfl ?_
 refine cSL (lA 2 72 ([.bool false,.slice A ((lim (iabs x)).length) c]) hs (fun b1 w2 h3 hs=>?_))
 refine lA 3 72 ([.bool true,.slice D ((lim (iabs y)).length) d]) hs (fun b4 w5 h6 hs=>?_)
 refine lA 4 72 ([.bool false,.slice none 0 0]) hs (fun b7 w8 h9 hs=>?_)
 refine lN (CG.seq (cSL (lL hs [.v 5 (.pointer (some ⟨b1,0,none⟩)),.o 6 (.bool false) 2 0 1,.v 7 (.pointer (some ⟨b4,0,none⟩)),.o 8 (.bool true) 1 0 1,.v 9 (.bool false)] (lN (cIF (CG.skipN (CG.seq (cSL (lL hs [.v 18 (.pointer (some ⟨b1,1,none⟩)),.o 19 (.slice A ((lim (iabs x)).length) c) 2 1 1,.v 20 (.pointer (some ⟨b4,1,none⟩)),.o 21 (.slice D ((lim (iabs y)).length) d) 1 1 1] (lC 22 hs (rNatCmp (iabs x) A c hc (iabs y) D d hd oM oM _ _ hs.g (hs.f.2.1) (hs.f.1)) ?_))))))))))
 rintro _ w10 h11 hs rfl
 have hcm:=cmpN_cases (iabs x) (iabs y)
 cases hb12:(decide ((0:Int)≤(cmpN (iabs x) (iabs y):Int)))
 ·
  have phb12:=oF hb12
  refine lB 23 hb12 ?_
  refine lN (cIF (CG.skipN (CG.seq (cR 8 [] mixed hs al_nil ?_))))
  refine eV 0 32 (.pointer (some ⟨b4,0,none⟩)) ?_
  refine eO 1 33 [(1,0,1)] (.bool true) hs ?_
  refine eV 2 34 (.pointer (some ⟨b4,1,none⟩)) ?_
  refine eO 3 35 [(1,1,1)] (.slice D ((lim (iabs y)).length) d) hs ?_
  refine eV 4 36 (.pointer (some ⟨b1,1,none⟩)) ?_
  refine eO 5 37 [(2,1,1)] (.slice A ((lim (iabs x)).length) c) hs ?_
  refine eC 6 38 hs (fun _ _ hs=>rNatSub (iabs y) D d hd (iabs x) A c hc oM oM oM _ _ hs.g (hs.f.1) (hs.f.2.1)) ?_
  rintro _ _ _ w17 h18 hs ⟨A13,c14,rfl,hc15,hA16⟩
  replace hs:=(hs.a_SlO hA16)
  refine eC 7 39 hs (fun _ _ hs=>rI true ((iabs y)-(iabs x)) A13 c14 hc15 _ _ hs.g (hs.f.1)) ?_
  rintro _ _ _ w23 h24 hs ⟨A19,c20,rfl,hc21,hA22⟩
  replace hs:=(hs.a_SlO hA22)
  refine eD0 hs (fun w25 h26 hs=>?_)
  refine tP 8 0 0 ([.bool (ineg (sgn true ((iabs y)-(iabs x)))),.slice A19 ((lim (iabs (sgn true ((iabs y)-(iabs x))))).length) c20]) hs (fun w27 hs=>?_)
  exact tN (CG.ret (hs.ret [(0,0,2)] (.agg #[.bool (ineg (sgn true ((iabs y)-(iabs x)))),.slice A19 ((lim (iabs (sgn true ((iabs y)-(iabs x))))).length) c20]) (by rw[show x+y=(sgn true ((iabs y)-(iabs x))) by unfold sgn iabs at *;simp;omega];exact ⟨_,_,rfl,hc21,(hs.f.1)⟩)))
 have phb12:=oT hb12
 refine lB 23 hb12 ?_
 refine lN (cIT (CG.seq (cR 8 [] mixed hs al_nil ?_)))
 refine eV 0 24 (.pointer (some ⟨b1,0,none⟩)) ?_
 refine eO 1 25 [(2,0,1)] (.bool false) hs ?_
 refine eV 2 26 (.pointer (some ⟨b1,1,none⟩)) ?_
 refine eO 3 27 [(2,1,1)] (.slice A ((lim (iabs x)).length) c) hs ?_
 refine eV 4 28 (.pointer (some ⟨b4,1,none⟩)) ?_
 refine eO 5 29 [(1,1,1)] (.slice D ((lim (iabs y)).length) d) hs ?_
 refine eC 6 30 hs (fun _ _ hs=>rNatSub (iabs x) A c hc (iabs y) D d hd oM oM oM _ _ hs.g (hs.f.2.1) (hs.f.1)) ?_
 rintro _ _ _ w32 h33 hs ⟨A28,c29,rfl,hc30,hA31⟩
 replace hs:=(hs.a_SlO hA31)
 refine eC 7 31 hs (fun _ _ hs=>rI false ((iabs x)-(iabs y)) A28 c29 hc30 _ _ hs.g (hs.f.1)) ?_
 rintro _ _ _ w38 h39 hs ⟨A34,c35,rfl,hc36,hA37⟩
 replace hs:=(hs.a_SlO hA37)
 refine eD0 hs (fun w40 h41 hs=>?_)
 refine tP 8 0 0 ([.bool (ineg (sgn false ((iabs x)-(iabs y)))),.slice A34 ((lim (iabs (sgn false ((iabs x)-(iabs y))))).length) c35]) hs (fun w42 hs=>?_)
 exact tN (CG.ret (hs.ret [(0,0,2)] (.agg #[.bool (ineg (sgn false ((iabs x)-(iabs y)))),.slice A34 ((lim (iabs (sgn false ((iabs x)-(iabs y))))).length) c35]) (by rw[show x+y=(sgn false ((iabs x)-(iabs y))) by unfold sgn iabs at *;simp;omega];exact ⟨_,_,rfl,hc36,(hs.f.1)⟩)))
theorem rIntAddtf (x:Int)(A:Option Addr)(c:Nat)(hc:(lim (iabs x)).length≤c)(hLx:(lim (iabs x)).length≤2000000000)(y:Int)(D:Option Addr)(d:Nat)(hd:(lim (iabs y)).length≤d)(hLy:(lim (iabs y)).length≤2000000000)(hx:ineg x=true)(hy:ineg y=false)(w:World)(h:Hp)(g:G w h)(hA:SlO 1 u32c 0 h A (lim (iabs x)))(hD:SlO 1 u32c 0 h D (lim (iabs y))) :
    Calls Tryz.prog 118 #[.agg #[.bool true,.slice A ((lim (iabs x)).length) c],.agg #[.bool false,.slice D ((lim (iabs y)).length) d]] w (Ret w h fun v h1=>RI h1 v (x+y)):=by
 have hs:=SS.start g
 replace hs:=((hs.a_SlO hA).a_SlO hD)
 have hx_:=ineg_true hx
 have hy_:=ineg_false hy
 refine go Tryz.func118 [(0,.agg #[.bool true,.slice A ((lim (iabs x)).length) c]),(1,.agg #[.bool false,.slice D ((lim (iabs y)).length) d])] rfl ?_
 refine cSL (lA 2 72 ([.bool true,.slice A ((lim (iabs x)).length) c]) hs (fun b1 w2 h3 hs=>?_))
 refine lA 3 72 ([.bool false,.slice D ((lim (iabs y)).length) d]) hs (fun b4 w5 h6 hs=>?_)
 refine lA 4 72 ([.bool false,.slice none 0 0]) hs (fun b7 w8 h9 hs=>?_)
 refine lN (CG.seq (cSL (lL hs [.v 5 (.pointer (some ⟨b1,0,none⟩)),.o 6 (.bool true) 2 0 1,.v 7 (.pointer (some ⟨b4,0,none⟩)),.o 8 (.bool false) 1 0 1,.v 9 (.bool false)] (lN (cIF (CG.skipN (CG.seq (cSL (lL hs [.v 18 (.pointer (some ⟨b1,1,none⟩)),.o 19 (.slice A ((lim (iabs x)).length) c) 2 1 1,.v 20 (.pointer (some ⟨b4,1,none⟩)),.o 21 (.slice D ((lim (iabs y)).length) d) 1 1 1] (lC 22 hs (rNatCmp (iabs x) A c hc (iabs y) D d hd oM oM _ _ hs.g (hs.f.2.1) (hs.f.1)) ?_))))))))))
 rintro _ w10 h11 hs rfl
 have hcm:=cmpN_cases (iabs x) (iabs y)
 cases hb12:(decide ((0:Int)≤(cmpN (iabs x) (iabs y):Int)))
 ·
  have phb12:=oF hb12
  refine lB 23 hb12 ?_
  refine lN (cIF (CG.skipN (CG.seq (cR 8 [] mixed hs al_nil ?_))))
  refine eV 0 32 (.pointer (some ⟨b4,0,none⟩)) ?_
  refine eO 1 33 [(1,0,1)] (.bool false) hs ?_
  refine eV 2 34 (.pointer (some ⟨b4,1,none⟩)) ?_
  refine eO 3 35 [(1,1,1)] (.slice D ((lim (iabs y)).length) d) hs ?_
  refine eV 4 36 (.pointer (some ⟨b1,1,none⟩)) ?_
  refine eO 5 37 [(2,1,1)] (.slice A ((lim (iabs x)).length) c) hs ?_
  refine eC 6 38 hs (fun _ _ hs=>rNatSub (iabs y) D d hd (iabs x) A c hc oM oM oM _ _ hs.g (hs.f.1) (hs.f.2.1)) ?_
  rintro _ _ _ w17 h18 hs ⟨A13,c14,rfl,hc15,hA16⟩
  replace hs:=(hs.a_SlO hA16)
  refine eC 7 39 hs (fun _ _ hs=>rI false ((iabs y)-(iabs x)) A13 c14 hc15 _ _ hs.g (hs.f.1)) ?_
  rintro _ _ _ w23 h24 hs ⟨A19,c20,rfl,hc21,hA22⟩
  replace hs:=(hs.a_SlO hA22)
  refine eD0 hs (fun w25 h26 hs=>?_)
  refine tP 8 0 0 ([.bool (ineg (sgn false ((iabs y)-(iabs x)))),.slice A19 ((lim (iabs (sgn false ((iabs y)-(iabs x))))).length) c20]) hs (fun w27 hs=>?_)
  exact tN (CG.ret (hs.ret [(0,0,2)] (.agg #[.bool (ineg (sgn false ((iabs y)-(iabs x)))),.slice A19 ((lim (iabs (sgn false ((iabs y)-(iabs x))))).length) c20]) (by rw[show x+y=(sgn false ((iabs y)-(iabs x))) by unfold sgn iabs at *;simp;omega];exact ⟨_,_,rfl,hc21,(hs.f.1)⟩)))
 have phb12:=oT hb12
 refine lB 23 hb12 ?_
 refine lN (cIT (CG.seq (cR 8 [] mixed hs al_nil ?_)))
 refine eV 0 24 (.pointer (some ⟨b1,0,none⟩)) ?_
 refine eO 1 25 [(2,0,1)] (.bool true) hs ?_
 refine eV 2 26 (.pointer (some ⟨b1,1,none⟩)) ?_
 refine eO 3 27 [(2,1,1)] (.slice A ((lim (iabs x)).length) c) hs ?_
 refine eV 4 28 (.pointer (some ⟨b4,1,none⟩)) ?_
 refine eO 5 29 [(1,1,1)] (.slice D ((lim (iabs y)).length) d) hs ?_
 refine eC 6 30 hs (fun _ _ hs=>rNatSub (iabs x) A c hc (iabs y) D d hd oM oM oM _ _ hs.g (hs.f.2.1) (hs.f.1)) ?_
 rintro _ _ _ w32 h33 hs ⟨A28,c29,rfl,hc30,hA31⟩
 replace hs:=(hs.a_SlO hA31)
 refine eC 7 31 hs (fun _ _ hs=>rI true ((iabs x)-(iabs y)) A28 c29 hc30 _ _ hs.g (hs.f.1)) ?_
 rintro _ _ _ w38 h39 hs ⟨A34,c35,rfl,hc36,hA37⟩
 replace hs:=(hs.a_SlO hA37)
 refine eD0 hs (fun w40 h41 hs=>?_)
 refine tP 8 0 0 ([.bool (ineg (sgn true ((iabs x)-(iabs y)))),.slice A34 ((lim (iabs (sgn true ((iabs x)-(iabs y))))).length) c35]) hs (fun w42 hs=>?_)
 exact tN (CG.ret (hs.ret [(0,0,2)] (.agg #[.bool (ineg (sgn true ((iabs x)-(iabs y)))),.slice A34 ((lim (iabs (sgn true ((iabs x)-(iabs y))))).length) c35]) (by rw[show x+y=(sgn true ((iabs x)-(iabs y))) by unfold sgn iabs at *;simp;omega];exact ⟨_,_,rfl,hc36,(hs.f.1)⟩)))
theorem rIntAddtt (x:Int)(A:Option Addr)(c:Nat)(hc:(lim (iabs x)).length≤c)(hLx:(lim (iabs x)).length≤2000000000)(y:Int)(D:Option Addr)(d:Nat)(hd:(lim (iabs y)).length≤d)(hLy:(lim (iabs y)).length≤2000000000)(hx:ineg x=true)(hy:ineg y=true)(w:World)(h:Hp)(g:G w h)(hA:SlO 1 u32c 0 h A (lim (iabs x)))(hD:SlO 1 u32c 0 h D (lim (iabs y))) :
    Calls Tryz.prog 118 #[.agg #[.bool true,.slice A ((lim (iabs x)).length) c],.agg #[.bool true,.slice D ((lim (iabs y)).length) d]] w (Ret w h fun v h1=>RI h1 v (x+y)):=by
 have hs:=SS.start g
 replace hs:=((hs.a_SlO hA).a_SlO hD)
 have hx_:=ineg_true hx
 have hy_:=ineg_true hy
 refine go Tryz.func118 [(0,.agg #[.bool true,.slice A ((lim (iabs x)).length) c]),(1,.agg #[.bool true,.slice D ((lim (iabs y)).length) d])] rfl ?_
 refine cSL (lA 2 72 ([.bool true,.slice A ((lim (iabs x)).length) c]) hs (fun b1 w2 h3 hs=>?_))
 refine lA 3 72 ([.bool true,.slice D ((lim (iabs y)).length) d]) hs (fun b4 w5 h6 hs=>?_)
 refine lA 4 72 ([.bool false,.slice none 0 0]) hs (fun b7 w8 h9 hs=>?_)
 refine lN (CG.seq (cSL (lL hs [.v 5 (.pointer (some ⟨b1,0,none⟩)),.o 6 (.bool true) 2 0 1,.v 7 (.pointer (some ⟨b4,0,none⟩)),.o 8 (.bool true) 1 0 1,.v 9 (.bool true)] (lN (cIT (CG.seq (cR 8 [] mixed hs al_nil ?_)))))))
 refine eV 0 10 (.pointer (some ⟨b1,0,none⟩)) ?_
 refine eO 1 11 [(2,0,1)] (.bool true) hs ?_
 refine eV 2 12 (.pointer (some ⟨b1,1,none⟩)) ?_
 refine eO 3 13 [(2,1,1)] (.slice A ((lim (iabs x)).length) c) hs ?_
 refine eV 4 14 (.pointer (some ⟨b4,1,none⟩)) ?_
 refine eO 5 15 [(1,1,1)] (.slice D ((lim (iabs y)).length) d) hs ?_
 refine eC 6 16 hs (fun _ _ hs=>rNatAdd (iabs x) A c hc (iabs y) D d hd oM oM _ _ hs.g (hs.f.2.1) (hs.f.1)) ?_
 rintro _ _ _ w14 h15 hs ⟨A10,c11,rfl,hc12,hA13⟩
 replace hs:=(hs.a_SlO hA13)
 refine eC 7 17 hs (fun _ _ hs=>rI true ((iabs x)+(iabs y)) A10 c11 hc12 _ _ hs.g (hs.f.1)) ?_
 rintro _ _ _ w20 h21 hs ⟨A16,c17,rfl,hc18,hA19⟩
 replace hs:=(hs.a_SlO hA19)
 refine eD0 hs (fun w22 h23 hs=>?_)
 refine tP 8 0 0 ([.bool (ineg (sgn true ((iabs x)+(iabs y)))),.slice A16 ((lim (iabs (sgn true ((iabs x)+(iabs y))))).length) c17]) hs (fun w24 hs=>?_)
 exact tN (CG.ret (hs.ret [(0,0,2)] (.agg #[.bool (ineg (sgn true ((iabs x)+(iabs y)))),.slice A16 ((lim (iabs (sgn true ((iabs x)+(iabs y))))).length) c17]) (by rw[show x+y=(sgn true ((iabs x)+(iabs y))) by unfold sgn iabs at *;simp;omega];exact ⟨_,_,rfl,hc18,(hs.f.1)⟩)))
theorem rIntAdd (x:Int)(A:Option Addr)(c:Nat)(hc:(lim (iabs x)).length≤c)(hLx:(lim (iabs x)).length≤2000000000)(y:Int)(D:Option Addr)(d:Nat)(hd:(lim (iabs y)).length≤d)(hLy:(lim (iabs y)).length≤2000000000)(w:World)(h:Hp)(g:G w h)(hA:SlO 1 u32c 0 h A (lim (iabs x)))(hD:SlO 1 u32c 0 h D (lim (iabs y))):Calls Tryz.prog 118 #[.agg #[.bool (ineg x),.slice A (lim (iabs x)).length c],.agg #[.bool (ineg y),.slice D (lim (iabs y)).length d]] w (Ret w h fun v h1=>RI h1 v (x+y)):=by
  rcases hx:ineg x with _|_<;>rcases hy:ineg y with _|_
  · exact rIntAddff x A c hc hLx y D d hd hLy hx hy w h g hA hD
  · exact rIntAddft x A c hc hLx y D d hd hLy hx hy w h g hA hD
  · exact rIntAddtf x A c hc hLx y D d hd hLy hx hy w h g hA hD
  · exact rIntAddtt x A c hc hLx y D d hd hLy hx hy w h g hA hD
theorem rNatGcdE (a:Nat)(A:Option Addr)(c:Nat)(hc:(lim a).length≤c)(b:Nat)(D:Option Addr)(d:Nat)(hd:(lim b).length≤d)(q:Nat)(hq:q=Nat.gcd a b)(hLa:(lim a).length≤3000000000)(hLb:(lim b).length≤3000000000)(w:World)(h:Hp)(g:G w h)(hA:SlO 1 u32c 0 h A (lim a))(hD:SlO 1 u32c 0 h D (lim b)) :
    Calls Tryz.prog 119 #[.slice A (lim a).length c,.slice D (lim b).length d] w (Ret w h fun v h1=>RN h1 v q):=by
  subst hq;exact rNatGcd a A c hc b D d hd hLa hLb w h g hA hD
theorem mkR_parts (n d:Int)(hd:d≠0):(mkR n d).num=sgn (ineg n != ineg d) (iabs n/Nat.gcd (iabs n) (iabs d))∧(mkR n d).den=iabs d/Nat.gcd (iabs n) (iabs d)∧0<Nat.gcd (iabs n) (iabs d):=by
  have hd0:0<iabs d:=by unfold iabs;omega
  have hz:iabs (if d<0 then -n else n)=iabs n:=by unfold iabs;split<;>omega
  obtain ⟨h1,h2,h3,h4⟩:=mkRat_parts (if d<0 then -n else n) (iabs d) hd0
  rw[hz] at h1 h2 h3 h4
  refine ⟨?_,h2,h4⟩
  have hs:=sgn_part _ _ h3
  rw[hz] at hs
  show (mkRat _ _).num=_
  rw[h1,←hs]
  by_cases hn:n=0
  · have hk:iabs n/Nat.gcd (iabs n) (iabs d)=0:=by rw[hn];exact Nat.zero_div _
    rw[hk]
    unfold sgn
    simp
  · have e:decide ((if d<0 then -n else n).sign<0)=(ineg n != ineg d):=by
      unfold ineg
      rcases Int.lt_trichotomy n 0 with a|a|a
      · rcases Int.lt_trichotomy d 0 with b|b|b
        · rw[if_pos b,Int.sign_eq_one_of_pos oM];simp[a,b]
        · exact absurd b hd
        · rw[if_neg oM,Int.sign_eq_neg_one_of_neg a];simp[a,show ¬d<0 by omega]
      · exact absurd a hn
      · rcases Int.lt_trichotomy d 0 with b|b|b
        · rw[if_pos b,Int.sign_eq_neg_one_of_neg oM];simp[show ¬n<0 by omega,b]
        · exact absurd b hd
        · rw[if_neg oM,Int.sign_eq_one_of_pos a];simp[show ¬n<0 by omega,show ¬d<0 by omega]
    rw[e]
theorem rMake (x:Int)(A:Option Addr)(c:Nat)(hc:(lim (iabs x)).length≤c)(hLx:(lim (iabs x)).length≤2000000000)(y:Int)(D:Option Addr)(d:Nat)(hd:(lim (iabs y)).length≤d)(hLy:(lim (iabs y)).length≤2000000000)(hd0:y≠0)(w:World)(h:Hp)(g:G w h)(hA:SlO 1 u32c 0 h A (lim (iabs x)))(hD:SlO 1 u32c 0 h D (lim (iabs y))) :
    Calls Tryz.prog 88 #[.agg #[.bool (ineg x),.slice A ((lim (iabs x)).length) c],.agg #[.bool (ineg y),.slice D ((lim (iabs y)).length) d]] w (Ret w h fun v h1=>RQ h1 v (mkR x y)):=by
 have hs:=SS.start g
 replace hs:=((hs.a_SlO hA).a_SlO hD)
 obtain ⟨hm1,hm2,hq0⟩:=mkR_parts x y hd0
 obtain ⟨q,hq⟩:∃ q,q=Nat.gcd (iabs x) (iabs y):=⟨_,rfl⟩
 rw[←hq] at hm1 hm2 hq0
 have hql:(lim q).length≤2000000000:=lim_len_le' (by rw[hq];exact Nat.gcd_le_right _ (by unfold iabs;omega)) hLy
 refine go Tryz.func88 [(0,.agg #[.bool (ineg x),.slice A ((lim (iabs x)).length) c]),(1,.agg #[.bool (ineg y),.slice D ((lim (iabs y)).length) d])] rfl ?_
 refine cSL (lA 2 72 ([.bool (ineg x),.slice A ((lim (iabs x)).length) c]) hs (fun b1 w2 h3 hs=>?_))
 refine lA 3 72 ([.bool (ineg y),.slice D ((lim (iabs y)).length) d]) hs (fun b4 w5 h6 hs=>?_)
 refine lA 4 74 ([.bool false,.slice none 0 0,.slice none 0 0]) hs (fun b7 w8 h9 hs=>?_)
 refine lNS (lL hs [.v 10 (.pointer (some ⟨b1,1,none⟩)),.o 11 (.slice A ((lim (iabs x)).length) c) 2 1 1,.v 12 (.pointer (some ⟨b4,1,none⟩)),.o 13 (.slice D ((lim (iabs y)).length) d) 1 1 1] (lC 14 hs (rNatGcdE (iabs x) A c hc (iabs y) D d hd q hq oM oM _ _ hs.g (hs.f.2.1) (hs.f.1)) ?_))
 rintro _ w14 h15 hs ⟨A10,c11,rfl,hc12,hA13⟩
 replace hs:=(hs.a_SlO hA13)
 refine lL hs [.m 5 14] (lNS (lL hs [.v 16 (.pointer (some ⟨b1,1,none⟩)),.o 17 (.slice A ((lim (iabs x)).length) c) 2 1 1,.m 18 5] (lC 19 hs (rNatDiv (iabs x) A c hc q A10 c11 hc12 oM oM hq0 _ _ hs.g (hs.f.2.2.1) (hs.f.1)) ?_)))
 rintro _ w20 h21 hs ⟨_,v2_A16,rfl,⟨A16,c17,rfl,hc18,hA19⟩,-⟩
 replace hs:=(hs.a_SlO hA19)
 refine lL hs [.m 15 19,.v 20 (.slice A16 ((lim ((iabs x)/q)).length) c17),.v 21 v2_A16,.m 6 20,.m 7 21] (lNS (lL hs [.v 23 (.pointer (some ⟨b4,1,none⟩)),.o 24 (.slice D ((lim (iabs y)).length) d) 1 1 1,.m 25 5] (lC 26 hs (rNatDiv (iabs y) D d hd q A10 c11 hc12 oM oM hq0 _ _ hs.g (hs.f.2.2.1) (hs.f.2.1)) ?_)))
 rintro _ w26 h27 hs ⟨_,v2_A22,rfl,⟨A22,c23,rfl,hc24,hA25⟩,-⟩
 replace hs:=(hs.a_SlO hA25)
 refine lL hs [.m 22 26,.v 27 (.slice A22 ((lim ((iabs y)/q)).length) c23),.v 28 v2_A22,.m 8 27,.m 9 28] (lNS (lL hs [.v 29 (.pointer (some ⟨b1,0,none⟩)),.o 30 (.bool (ineg x)) 2 0 1,.v 31 (.pointer (some ⟨b4,0,none⟩)),.o 32 (.bool (ineg y)) 1 0 1,.v 33 (.bool ((ineg x) != (ineg y))),.m 34 6] (lC 35 hs (rI ((ineg x) != (ineg y)) ((iabs x)/q) A16 c17 hc18 _ _ hs.g (hs.f.2.1)) ?_)))
 rintro _ w32 h33 hs ⟨A28,c29,rfl,hc30,hA31⟩
 replace hs:=(hs.a_SlO hA31)
 refine lL hs [.m 36 8,.v 37 (.agg #[.bool (ineg (sgn ((ineg x) != (ineg y)) ((iabs x)/q))),.slice A28 ((lim (iabs (sgn ((ineg x) != (ineg y)) ((iabs x)/q)))).length) c29,.slice A22 ((lim ((iabs y)/q)).length) c23])] (lP 0 0 ([.bool (ineg (sgn ((ineg x) != (ineg y)) ((iabs x)/q))),.slice A28 ((lim (iabs (sgn ((ineg x) != (ineg y)) ((iabs x)/q)))).length) c29,.slice A22 ((lim ((iabs y)/q)).length) c23]) hs (fun w34 hs=>?_))
 exact lN (CG.ret (hs.ret [(0,0,3)] (.agg #[.bool (ineg (sgn ((ineg x) != (ineg y)) ((iabs x)/q))),.slice A28 ((lim (iabs (sgn ((ineg x) != (ineg y)) ((iabs x)/q)))).length) c29,.slice A22 ((lim ((iabs y)/q)).length) c23]) (by unfold RQ;rw[hm1,hm2];exact ⟨_,_,_,_,rfl,hc30,hc24,(hs.f.1),(hs.f.2.1)⟩)))
theorem lim_imul (x:Int)(d:Nat):(lim (iabs (x*((d:Nat):Int)))).length≤(lim (iabs x)).length+(lim d).length:=by
  have:iabs (x*((d:Nat):Int))=iabs x*d:=Int.natAbs_mul x (d:Int)
  rw[this];exact lim_len_mul
theorem rDen (a:Rat)(A1:Option Addr)(c1:Nat)(D1:Option Addr)(d1:Nat)(hc1:(lim (iabs a.num)).length≤c1)(hd1:(lim a.den).length≤d1)(hn1:(lim (iabs a.num)).length≤300000000)(hm1:(lim a.den).length≤300000000)(w:World)(h:Hp)(g:G w h)(hA1:SlO 1 u32c 0 h A1 (lim (iabs a.num)))(hD1:SlO 1 u32c 0 h D1 (lim a.den)) :
    Calls Tryz.prog 90 #[.agg #[.bool (ineg a.num),.slice A1 ((lim (iabs a.num)).length) c1,.slice D1 ((lim (a.den)).length) d1]] w (Ret w h fun v h1=>RI h1 v ((a.den:Nat):Int)):=by
 have hs:=SS.start g
 replace hs:=((hs.a_SlO hA1).a_SlO hD1)
 refine go Tryz.func90 [(0,.agg #[.bool (ineg a.num),.slice A1 ((lim (iabs a.num)).length) c1,.slice D1 ((lim (a.den)).length) d1])] rfl ?_
 refine cSL (lA 1 74 ([.bool (ineg a.num),.slice A1 ((lim (iabs a.num)).length) c1,.slice D1 ((lim (a.den)).length) d1]) hs (fun b1 w2 h3 hs=>?_))
 refine lA 2 72 ([.bool false,.slice none 0 0]) hs (fun b4 w5 h6 hs=>?_)
 refine lNS (lL hs [.v 3 (.pointer (some ⟨b1,2,none⟩)),.o 4 (.slice D1 ((lim (a.den)).length) d1) 1 2 1] (lC 5 hs (rI false a.den D1 d1 hd1 _ _ hs.g (hs.f.1)) ?_))
 rintro _ w11 h12 hs ⟨A7,c8,rfl,hc9,hA10⟩
 replace hs:=(hs.a_SlO hA10)
 refine lP 0 0 ([.bool (ineg (sgn false a.den)),.slice A7 ((lim (iabs (sgn false a.den))).length) c8]) hs (fun w13 hs=>?_)
 exact lN (CG.ret (hs.ret [(0,0,2)] (.agg #[.bool (ineg (sgn false a.den)),.slice A7 ((lim (iabs (sgn false a.den))).length) c8]) (⟨_,_,rfl,hc9,(hs.f.1)⟩)))
theorem lim_iadd (x y:Int){k:Nat}(hx:(lim (iabs x)).length≤k)(hy:(lim (iabs y)).length≤k):(lim (iabs (x+y))).length≤k+1:=lim_len_le' (show iabs (x+y)≤iabs x+iabs y from Int.natAbs_add_le x y) (lim_len_max hx hy)
theorem lim_imul2 (x y:Int):(lim (iabs (x*y))).length≤(lim (iabs x)).length+(lim (iabs y)).length:=by
  have:iabs (x*y)=iabs x*iabs y:=Int.natAbs_mul x y
  rw[this];exact lim_len_mul
theorem mkR_pos (z:Int)(n:Nat):mkR z (sgn false n)=mkRat z n:=by
  have h1:sgn false n=(n:Int):=rfl
  rw[h1];unfold mkR;rw[if_neg oM];rfl
theorem mkR_add (a b:Rat):mkR (a.num*((b.den:Nat):Int)+b.num*((a.den:Nat):Int)) (sgn false (a.den*b.den))=a+b:=by
  rw[mkR_pos,Rat.add_def,Rat.normalize_eq_mkRat]
theorem mkR_mul (a b:Rat):mkR (a.num*b.num) (sgn false (a.den*b.den))=a*b:=by
  rw[mkR_pos,Rat.mul_def,Rat.normalize_eq_mkRat]
theorem dd_ne (a b:Rat):sgn false (a.den*b.den)≠0:=by
  have h:=Nat.mul_pos a.den_pos b.den_pos
  show ((a.den*b.den:Nat):Int)≠0
  omega
theorem rAdd (a:Rat)(A1:Option Addr)(c1:Nat)(D1:Option Addr)(d1:Nat)(hc1:(lim (iabs a.num)).length≤c1)(hd1:(lim a.den).length≤d1)(hn1:(lim (iabs a.num)).length≤300000000)(hm1:(lim a.den).length≤300000000)(b:Rat)(A2:Option Addr)(c2:Nat)(D2:Option Addr)(d2:Nat)(hc2:(lim (iabs b.num)).length≤c2)(hd2:(lim b.den).length≤d2)(hn2:(lim (iabs b.num)).length≤300000000)(hm2:(lim b.den).length≤300000000)(w:World)(h:Hp)(g:G w h)(hA1:SlO 1 u32c 0 h A1 (lim (iabs a.num)))(hD1:SlO 1 u32c 0 h D1 (lim a.den))(hA2:SlO 1 u32c 0 h A2 (lim (iabs b.num)))(hD2:SlO 1 u32c 0 h D2 (lim b.den)) :
    Calls Tryz.prog 86 #[.agg #[.bool (ineg a.num),.slice A1 ((lim (iabs a.num)).length) c1,.slice D1 ((lim (a.den)).length) d1],.agg #[.bool (ineg b.num),.slice A2 ((lim (iabs b.num)).length) c2,.slice D2 ((lim (b.den)).length) d2]] w (Ret w h fun v h1=>RQ h1 v (a+b)):=by
 have hs:=SS.start g
 replace hs:=((((hs.a_SlO hA1).a_SlO hD1).a_SlO hA2).a_SlO hD2)
 have hx1:=lim_imul a.num b.den
 have hx2:=lim_imul b.num a.den
 have hxs:=lim_iadd (a.num*((b.den:Nat):Int)) (b.num*((a.den:Nat):Int)) (k:=600000000) oM oM
 have hdl:=@lim_len_mul a.den b.den
 refine go Tryz.func86 [(0,.agg #[.bool (ineg a.num),.slice A1 ((lim (iabs a.num)).length) c1,.slice D1 ((lim (a.den)).length) d1]),(1,.agg #[.bool (ineg b.num),.slice A2 ((lim (iabs b.num)).length) c2,.slice D2 ((lim (b.den)).length) d2])] rfl ?_
 refine cSL (lA 2 74 ([.bool (ineg a.num),.slice A1 ((lim (iabs a.num)).length) c1,.slice D1 ((lim (a.den)).length) d1]) hs (fun b1 w2 h3 hs=>?_))
 refine lA 3 74 ([.bool (ineg b.num),.slice A2 ((lim (iabs b.num)).length) c2,.slice D2 ((lim (b.den)).length) d2]) hs (fun b4 w5 h6 hs=>?_)
 refine lA 4 74 ([.bool false,.slice none 0 0,.slice none 0 0]) hs (fun b7 w8 h9 hs=>?_)
 refine lN (CG.seq (cR 18 [] mixed hs al_nil ?_))
 refine eV 0 5 (.pointer (some ⟨b1,0,none⟩)) ?_
 refine eO 1 6 [(2,0,2)] (.agg #[.bool (ineg a.num),.slice A1 ((lim (iabs a.num)).length) c1]) hs ?_
 refine eO 2 7 [(1,0,3)] (.agg #[.bool (ineg b.num),.slice A2 ((lim (iabs b.num)).length) c2,.slice D2 ((lim (b.den)).length) d2]) hs ?_
 refine eV 5 10 (.pointer (some ⟨b4,0,none⟩)) ?_
 refine eO 6 11 [(1,0,2)] (.agg #[.bool (ineg b.num),.slice A2 ((lim (iabs b.num)).length) c2]) hs ?_
 refine eO 7 12 [(2,0,3)] (.agg #[.bool (ineg a.num),.slice A1 ((lim (iabs a.num)).length) c1,.slice D1 ((lim (a.den)).length) d1]) hs ?_
 refine eV 11 16 (.pointer (some ⟨b1,2,none⟩)) ?_
 refine eO 12 17 [(2,2,1)] (.slice D1 ((lim (a.den)).length) d1) hs ?_
 refine eV 13 18 (.pointer (some ⟨b4,2,none⟩)) ?_
 refine eO 14 19 [(1,2,1)] (.slice D2 ((lim (b.den)).length) d2) hs ?_
 refine eC 3 8 hs (fun _ _ hs=>rDen b A2 c2 D2 d2 hc2 hd2 oM oM _ _ hs.g (hs.f.2.1) (hs.f.1)) ?_
 rintro _ _ _ w14 h15 hs ⟨A10,c11,rfl,hc12,hA13⟩
 replace hs:=(hs.a_SlO hA13)
 refine eC 4 9 hs (fun _ _ hs=>rIntMul a.num A1 c1 hc1 oM ((b.den:Nat):Int) A10 c11 hc12 (show (lim (b.den)).length≤2000000000 by omega) _ _ hs.g (hs.f.2.2.2.2.1) (hs.f.1)) ?_
 rintro _ _ _ w20 h21 hs ⟨A16,c17,rfl,hc18,hA19⟩
 replace hs:=(hs.a_SlO hA19)
 refine eC 8 13 hs (fun _ _ hs=>rDen a A1 c1 D1 d1 hc1 hd1 oM oM _ _ hs.g (hs.f.2.2.2.2.2.1) (hs.f.2.2.2.2.1)) ?_
 rintro _ _ _ w26 h27 hs ⟨A22,c23,rfl,hc24,hA25⟩
 replace hs:=(hs.a_SlO hA25)
 refine eC 9 14 hs (fun _ _ hs=>rIntMul b.num A2 c2 hc2 oM ((a.den:Nat):Int) A22 c23 hc24 (show (lim (a.den)).length≤2000000000 by omega) _ _ hs.g (hs.f.2.2.2.2.1) (hs.f.1)) ?_
 rintro _ _ _ w32 h33 hs ⟨A28,c29,rfl,hc30,hA31⟩
 replace hs:=(hs.a_SlO hA31)
 refine eC 10 15 hs (fun _ _ hs=>rIntAdd (a.num*((b.den:Nat):Int)) A16 c17 hc18 oM (b.num*((a.den:Nat):Int)) A28 c29 hc30 oM _ _ hs.g (hs.f.2.2.1) (hs.f.1)) ?_
 rintro _ _ _ w38 h39 hs ⟨A34,c35,rfl,hc36,hA37⟩
 replace hs:=(hs.a_SlO hA37)
 refine eC 15 20 hs (fun _ _ hs=>rNatMul a.den D1 d1 hd1 b.den D2 d2 hd2 oM oM _ _ hs.g (hs.f.2.2.2.2.2.2.2.1) (hs.f.2.2.2.2.2.1)) ?_
 rintro _ _ _ w44 h45 hs ⟨A40,c41,rfl,hc42,hA43⟩
 replace hs:=(hs.a_SlO hA43)
 refine eC 16 21 hs (fun _ _ hs=>rI false (a.den*b.den) A40 c41 hc42 _ _ hs.g (hs.f.1)) ?_
 rintro _ _ _ w50 h51 hs ⟨A46,c47,rfl,hc48,hA49⟩
 replace hs:=(hs.a_SlO hA49)
 refine eC 17 22 hs (fun _ _ hs=>rMake ((a.num*((b.den:Nat):Int))+(b.num*((a.den:Nat):Int))) A34 c35 hc36 oM (sgn false (a.den*b.den)) A46 c47 hc48 (show (lim ((a.den*b.den))).length≤2000000000 by omega) (dd_ne a b) _ _ hs.g (hs.f.2.2.1) (hs.f.1)) ?_
 rintro _ _ _ w60 h61 hs ⟨A52,c53,A56,c57,rfl,hc54,hc58,hA55,hA59⟩
 replace hs:=((hs.a_SlO hA55).a_SlO hA59)
 refine eD0 hs (fun w62 h63 hs=>?_)
 refine tP 18 0 0 ([.bool (ineg (mkR ((a.num*((b.den:Nat):Int))+(b.num*((a.den:Nat):Int))) (sgn false (a.den*b.den))).num),.slice A52 ((lim (iabs (mkR ((a.num*((b.den:Nat):Int))+(b.num*((a.den:Nat):Int))) (sgn false (a.den*b.den))).num)).length) c53,.slice A56 ((lim (mkR ((a.num*((b.den:Nat):Int))+(b.num*((a.den:Nat):Int))) (sgn false (a.den*b.den))).den).length) c57]) hs (fun w64 hs=>?_)
 exact tN (CG.ret (hs.ret [(0,0,3)] (.agg #[.bool (ineg (mkR ((a.num*((b.den:Nat):Int))+(b.num*((a.den:Nat):Int))) (sgn false (a.den*b.den))).num),.slice A52 ((lim (iabs (mkR ((a.num*((b.den:Nat):Int))+(b.num*((a.den:Nat):Int))) (sgn false (a.den*b.den))).num)).length) c53,.slice A56 ((lim (mkR ((a.num*((b.den:Nat):Int))+(b.num*((a.den:Nat):Int))) (sgn false (a.den*b.den))).den).length) c57]) (by rw[←mkR_add a b];exact ⟨_,_,_,_,rfl,hc54,hc58,(hs.f.2.1),(hs.f.1)⟩)))
theorem rMul (a:Rat)(A1:Option Addr)(c1:Nat)(D1:Option Addr)(d1:Nat)(hc1:(lim (iabs a.num)).length≤c1)(hd1:(lim a.den).length≤d1)(hn1:(lim (iabs a.num)).length≤300000000)(hm1:(lim a.den).length≤300000000)(b:Rat)(A2:Option Addr)(c2:Nat)(D2:Option Addr)(d2:Nat)(hc2:(lim (iabs b.num)).length≤c2)(hd2:(lim b.den).length≤d2)(hn2:(lim (iabs b.num)).length≤300000000)(hm2:(lim b.den).length≤300000000)(w:World)(h:Hp)(g:G w h)(hA1:SlO 1 u32c 0 h A1 (lim (iabs a.num)))(hD1:SlO 1 u32c 0 h D1 (lim a.den))(hA2:SlO 1 u32c 0 h A2 (lim (iabs b.num)))(hD2:SlO 1 u32c 0 h D2 (lim b.den)) :
    Calls Tryz.prog 84 #[.agg #[.bool (ineg a.num),.slice A1 ((lim (iabs a.num)).length) c1,.slice D1 ((lim (a.den)).length) d1],.agg #[.bool (ineg b.num),.slice A2 ((lim (iabs b.num)).length) c2,.slice D2 ((lim (b.den)).length) d2]] w (Ret w h fun v h1=>RQ h1 v (a*b)):=by
 have hs:=SS.start g
 replace hs:=((((hs.a_SlO hA1).a_SlO hD1).a_SlO hA2).a_SlO hD2)
 have hx1:=lim_imul2 a.num b.num
 have hdl:=@lim_len_mul a.den b.den
 refine go Tryz.func84 [(0,.agg #[.bool (ineg a.num),.slice A1 ((lim (iabs a.num)).length) c1,.slice D1 ((lim (a.den)).length) d1]),(1,.agg #[.bool (ineg b.num),.slice A2 ((lim (iabs b.num)).length) c2,.slice D2 ((lim (b.den)).length) d2])] rfl ?_
 refine cSL (lA 2 74 ([.bool (ineg a.num),.slice A1 ((lim (iabs a.num)).length) c1,.slice D1 ((lim (a.den)).length) d1]) hs (fun b1 w2 h3 hs=>?_))
 refine lA 3 74 ([.bool (ineg b.num),.slice A2 ((lim (iabs b.num)).length) c2,.slice D2 ((lim (b.den)).length) d2]) hs (fun b4 w5 h6 hs=>?_)
 refine lA 4 74 ([.bool false,.slice none 0 0,.slice none 0 0]) hs (fun b7 w8 h9 hs=>?_)
 refine lN (CG.seq (cR 12 [] mixed hs al_nil ?_))
 refine eV 0 5 (.pointer (some ⟨b1,0,none⟩)) ?_
 refine eO 1 6 [(2,0,2)] (.agg #[.bool (ineg a.num),.slice A1 ((lim (iabs a.num)).length) c1]) hs ?_
 refine eV 2 7 (.pointer (some ⟨b4,0,none⟩)) ?_
 refine eO 3 8 [(1,0,2)] (.agg #[.bool (ineg b.num),.slice A2 ((lim (iabs b.num)).length) c2]) hs ?_
 refine eV 5 10 (.pointer (some ⟨b1,2,none⟩)) ?_
 refine eO 6 11 [(2,2,1)] (.slice D1 ((lim (a.den)).length) d1) hs ?_
 refine eV 7 12 (.pointer (some ⟨b4,2,none⟩)) ?_
 refine eO 8 13 [(1,2,1)] (.slice D2 ((lim (b.den)).length) d2) hs ?_
 refine eC 4 9 hs (fun _ _ hs=>rIntMul a.num A1 c1 hc1 oM b.num A2 c2 hc2 oM _ _ hs.g (hs.f.2.2.2.1) (hs.f.2.1)) ?_
 rintro _ _ _ w14 h15 hs ⟨A10,c11,rfl,hc12,hA13⟩
 replace hs:=(hs.a_SlO hA13)
 refine eC 9 14 hs (fun _ _ hs=>rNatMul a.den D1 d1 hd1 b.den D2 d2 hd2 oM oM _ _ hs.g (hs.f.2.2.2.1) (hs.f.2.1)) ?_
 rintro _ _ _ w20 h21 hs ⟨A16,c17,rfl,hc18,hA19⟩
 replace hs:=(hs.a_SlO hA19)
 refine eC 10 15 hs (fun _ _ hs=>rI false (a.den*b.den) A16 c17 hc18 _ _ hs.g (hs.f.1)) ?_
 rintro _ _ _ w26 h27 hs ⟨A22,c23,rfl,hc24,hA25⟩
 replace hs:=(hs.a_SlO hA25)
 refine eC 11 16 hs (fun _ _ hs=>rMake (a.num*b.num) A10 c11 hc12 oM (sgn false (a.den*b.den)) A22 c23 hc24 (show (lim ((a.den*b.den))).length≤2000000000 by omega) (dd_ne a b) _ _ hs.g (hs.f.2.2.1) (hs.f.1)) ?_
 rintro _ _ _ w36 h37 hs ⟨A28,c29,A32,c33,rfl,hc30,hc34,hA31,hA35⟩
 replace hs:=((hs.a_SlO hA31).a_SlO hA35)
 refine eD0 hs (fun w38 h39 hs=>?_)
 refine tP 12 0 0 ([.bool (ineg (mkR (a.num*b.num) (sgn false (a.den*b.den))).num),.slice A28 ((lim (iabs (mkR (a.num*b.num) (sgn false (a.den*b.den))).num)).length) c29,.slice A32 ((lim (mkR (a.num*b.num) (sgn false (a.den*b.den))).den).length) c33]) hs (fun w40 hs=>?_)
 exact tN (CG.ret (hs.ret [(0,0,3)] (.agg #[.bool (ineg (mkR (a.num*b.num) (sgn false (a.den*b.den))).num),.slice A28 ((lim (iabs (mkR (a.num*b.num) (sgn false (a.den*b.den))).num)).length) c29,.slice A32 ((lim (mkR (a.num*b.num) (sgn false (a.den*b.den))).den).length) c33]) (by rw[←mkR_mul a b];exact ⟨_,_,_,_,rfl,hc30,hc34,(hs.f.2.1),(hs.f.1)⟩)))
theorem mkR_eq (n d:Int)(hd:d≠0):mkR n d=(n:Rat)/(d:Rat):=by
  unfold mkR
  have hD:(d:Rat)≠0:=by simpa using hd
  rcases Int.lt_trichotomy d 0 with h|h|h
  · rw[if_pos h,Rat.mkRat_eq_div]
    have e:((iabs d:Nat):Rat) = -(d:Rat):=by
      have:((iabs d:Nat):Int) = -d:=by unfold iabs;omega
      have h2:(((iabs d:Nat):Int):Rat)=((-d:Int):Rat):=by rw[this]
      rw[Rat.intCast_natCast,Rat.intCast_neg] at h2;exact h2
    rw[e];simp;grind
  · exact absurd h hd
  · rw[if_neg oM,Rat.mkRat_eq_div]
    have e:((iabs d:Nat):Rat)=(d:Rat):=by
      have:((iabs d:Nat):Int)=d:=by unfold iabs;omega
      have h2:(((iabs d:Nat):Int):Rat)=((d:Int):Rat):=by rw[this]
      rw[Rat.intCast_natCast] at h2;exact h2
    rw[e]
theorem lim_small {z:Int}(h0 : -9223372036854775808≤z)(h1:z<9223372036854775808):(lim (iabs z)).length≤2:=lim_len_le (by unfold iabs;omega)
theorem rOf (z:Int)(h0 : -9223372036854775808≤z)(h1:z<9223372036854775808)(w:World)(h:Hp)(g:G w h) :
    Calls Tryz.prog 28 #[.int .i64 z] w (Ret w h fun v h1=>RQ h1 v (z:Rat)):=by
 have hs:=SS.start g
 refine go Tryz.func28 [(0,.int .i64 z)] rfl ?_
 refine cSL (lA 2 74 ([.bool false,.slice none 0 0,.slice none 0 0]) hs (fun b1 w2 h3 hs=>?_))
 refine lNS (lL hs [.m 3 0] (lC 4 hs (rIntOf z oM oM _ _ hs.g) ?_))
 rintro _ w8 h9 hs ⟨A4,c5,rfl,hc6,hA7⟩
 replace hs:=(hs.a_SlO hA7)
 refine lC 5 hs (rNatOf 1 oM _ _ hs.g) ?_
 rintro _ w14 h15 hs ⟨A10,c11,rfl,hc12,hA13⟩
 replace hs:=(hs.a_SlO hA13)
 refine lL hs [.v 6 (.agg #[.bool (ineg z),.slice A4 ((lim (iabs z)).length) c5,.slice A10 ((lim 1).length) c11])] (lP 0 0 ([.bool (ineg z),.slice A4 ((lim (iabs z)).length) c5,.slice A10 ((lim 1).length) c11]) hs (fun w16 hs=>?_))
 exact lN (CG.ret (hs.ret [(0,0,3)] (.agg #[.bool (ineg z),.slice A4 ((lim (iabs z)).length) c5,.slice A10 ((lim 1).length) c11]) (by unfold RQ;rw[Rat.num_intCast,Rat.den_intCast];exact ⟨_,_,_,_,rfl,hc6,hc12,(hs.f.2.1),(hs.f.1)⟩)))
theorem opShrU {P:Program}{Γ:Env}{o:Oper}{t u:TypeId}{x y:Operand}{k ky:IntKind}{a n:Nat}(ho:o.op=.binOp .shr t x y u)(hx:ev Γ x=.int k (a:Int))(hy:ev Γ y=.int ky (n:Int))(hn:n≤k.bits)(w:World) :
    (execOp (ev Γ) o).run P w=.ok (.value (.int k ((a/2^n:Nat):Int))) w:=by
  have:=opShr (P:=P) ho hx hy hn w
  rw[show ((a:Int)/2^n)=((a/2^n:Nat):Int) by simp] at this
  exact this
theorem opShlU32 {P:Program}{Γ:Env}{o:Oper}{t u:TypeId}{x y:Operand}{ky:IntKind}{a n:Nat}(ho:o.op=.binOp .shl t x y u)(hx:ev Γ x=.int .u32 (a:Int))(hy:ev Γ y=.int ky (n:Int))(hn:n≤32)(hf:a*2^n<4294967296)(w:World) :
    (execOp (ev Γ) o).run P w=.ok (.value (.int .u32 ((a*2^n:Nat):Int))) w:=by
  have:=opShl (P:=P) ho hx hy hn w
  rw[show ((a:Int)*2^n)=((a*2^n:Nat):Int) by simp,fnU32 hf] at this
  exact this
theorem rNatBytes (a:Nat)(A:Option Addr)(c:Nat)(hc:(lim a).length≤c)(hLa:(lim a).length≤4000000000)(w:World)(h:Hp)(g:G w h)(hA:SlO 1 u32c 0 h A (lim a)) :
    Calls Tryz.prog 115 #[.slice A ((lim a).length) c] w (Ret w h fun v h1=>∃ A,v=.slice A ((nb a+7)/8) ((nb a+7)/8)∧SlO 1 u8c 0 h1 A (byt a ((nb a+7)/8))):=by
 have hs:=SS.start g
 replace hs:=(hs.a_SlO hA)
 have hna:=nb_len a
 refine go Tryz.func115 [(0,.slice A ((lim a).length) c)] rfl ?_
 refine cSL (lL hs [.v 2 (.slice none 0 0)] (lNS (lL hs [.m 6 0] (lC 7 hs (rNatBits a A c hc hLa _ _ hs.g (hs.f.1)) ?_))))
 rintro _ w1 h2 hs rfl
 refine lIn 8 ((nb a:Nat)+7) ((nb a)+7) ?_
 refine lV 9 (.int .i64 (((nb a)+7)/8:Nat)) ?_ (hr:=rint (opQuo (t:=3) (u:=3) (x:=.tmp 8) (y:=.const (.int .i64 8)) (k:=.i64) (a:=(((nb a)+7:Nat):Int)) (b:=(8:Int)) kR kR kR oM _) (quoI64 ((nb a)+7) 8 oM))
 refine lL hs [.m 3 9] (lNS (lL hs [.m 10 3] (lK 11 5 (((nb a)+7)/8:Nat) 1 1 (.int .u8 0) u8c 0 hs (fun b3 w4 h5 hs=>?_))))
 have hl6:(List.replicate (((nb a)+7)/8:Nat) 0).length=(((nb a)+7)/8:Nat):=by simp
 refine lL hs [.m 4 11] (lN (CG.seq (cSL (lL hs [.v 5 (.int .i64 0)] (lN (CG.block (cTo [(0,.slice A ((lim a).length) c),(2,.slice none 0 0),(3,.int .i64 (((nb a)+7)/8:Nat)),(4,.slice (some ⟨b3,0,none⟩) (((nb a)+7)/8:Nat) (((nb a)+7)/8:Nat)),(5,.int .i64 0)] ?_)))))))
 refine CG.loop (fun μ_ Γ w_=>∃ (i:Nat) (l:List Nat) (h_:Hp),μ_=((nb a+7)/8)-i∧Γ=[(0,.slice A ((lim a).length) c),(2,.slice none 0 0),(3,.int .i64 (((nb a)+7)/8:Nat)),(4,.slice (some ⟨b3,0,none⟩) (((nb a)+7)/8:Nat) (((nb a)+7)/8:Nat)),(5,.int .i64 (i:Nat))]∧SS w h w_ h_ [⟨b3,5,(l).flatMap u8c⟩] [] [fun h_=>SlO 1 u32c 0 h_ A (lim a)]∧(i≤((nb a+7)/8))∧(l.length=((nb a+7)/8))∧(∀ j,j<i→l.getD (((nb a+7)/8)-1-j) 0=a/256^j%256)) _ ⟨0,List.replicate (((nb a)+7)/8:Nat) 0,h5,rfl,rfl,hs.to _ _,Nat.zero_le _,hl6,(fun j hj=>absurd hj oM)⟩ ?_
 rintro _ _ w7 ⟨i,l,h8,hm9,rfl,hs,hi,hll,hg⟩
 have hai:=(Ld.lim a).get (i/4)
 refine CG.seq (cSL (lL hs [.m 12 5,.m 13 3] ?_))
 cases hb10:(decide (((i:Nat):Int)<((((nb a)+7)/8:Nat):Int)))
 ·
  have phb10:=oF hb10
  refine lB 14 hb10 ?_
  refine lN (cIF (CG.exit ?_))
  show CG _ _ _ _ _ _ _ _
  refine cSL (lL hs [.m 34 4,.m 2 34] (lN (CG.ret ?_)))
  have him:i=((nb a+7)/8):=by omega
  have hlb:l=byt a ((nb a+7)/8):=eq_byt hll (fun j hj=>hg j oM)
  rw[hlb] at hs
  obtain ⟨h11,hs,sg12,lo13,bc14⟩:=hs.pub 0
  replace hs:=(hs.to [] []).a_SlO (SlO.of_flat (sz:=1) (f:=u8c) (d:=0) (b:=b3) (o:=0) (l:=byt a ((nb a+7)/8)) (fun _=>rfl) sg12)
  exact hs.ret [] (.slice (some ⟨b3,0,none⟩) (((nb a)+7)/8:Nat) (((nb a)+7)/8:Nat)) (⟨some ⟨b3,0,none⟩,rfl,(hs.f.1)⟩)
 have phb10:=oT hb10
 refine lB 14 hb10 ?_
 refine lN (cIT (CG.skipN (CG.seq (CG.block (CG.listed (lL hs [.m 17 4,.m 18 3] (lIn 19 ((((nb a)+7)/8:Nat)-1) ((((nb a)+7)/8:Nat)-1) ?_)))))))
 refine lL hs [.m 20 5] (lIn 21 (((((nb a)+7)/8:Nat)-1:Nat)-(i:Nat)) (((((nb a)+7)/8:Nat)-1:Nat)-i) ?_)
 refine lL hs [.m 22 0,.m 23 5] (lV 24 (.int .i64 (i/4:Nat)) ?_ (hr:=rint (opQuo (t:=3) (u:=3) (x:=.tmp 23) (y:=.const (.int .i64 4)) (k:=.i64) (a:=((i:Nat):Int)) (b:=(4:Int)) kR kR kR oM _) (quoI64 i 4 oM)))
 refine lX 25 A ((lim a).length) c 1 (i/4:Nat) (i/4) ((hs.f.1).ok oM) ?_
 refine lH 26 (.int .u32 ((lim a).getD (i/4) 0:Nat)) hs ((hs.f.1).el (i/4) oM) ?_
 refine lL hs [.m 27 5] (lV 28 (.int .i64 (i%4:Nat)) ?_ (hr:=rint (opRem (t:=3) (u:=3) (x:=.tmp 27) (y:=.const (.int .i64 4)) (k:=.i64) (a:=((i:Nat):Int)) (b:=(4:Int)) kR kR kR oM _) (tmodNat i 4)))
 refine lIn 29 (8*(i%4:Nat)) (8*(i%4)) ?_
 refine lV 30 (.int .u64 (8*(i%4):Nat)) ?_ (hr:=rint (n:=IntKind.wrap .u64 ((8*(i%4):Nat):Int)) kR (fitU64 oM oM))
 refine lV 31 (.int .u32 ((lim a).getD (i/4) 0/2^(8*(i%4)):Nat)) ?_ (hr:=opShrU (t:=159) (u:=160) (x:=.tmp 26) (y:=.tmp 30) (k:=.u32) (ky:=.u64) (a:=(lim a).getD (i/4) 0) (n:=8*(i%4)) kR kR kR (show 8*(i%4)≤32 by omega) _)
 refine lV 32 (.int .u8 ((lim a).getD (i/4) 0/2^(8*(i%4))%256:Nat)) ?_ (hr:=rint (n:=IntKind.wrap .u8 (((lim a).getD (i/4) 0/2^(8*(i%4)):Nat):Int)) kR (wrU8 _))
 refine lX 33 (some ⟨b3,0,none⟩) (((nb a)+7)/8:Nat) (((nb a)+7)/8:Nat) 1 (((((nb a)+7)/8:Nat)-1:Nat)-i:Nat) (((((nb a)+7)/8:Nat)-1:Nat)-i:Nat) rfl ?_
 refine lW 0 l u8c 1 (((((nb a)+7)/8:Nat)-1:Nat)-i:Nat) ((lim a).getD (i/4) 0/2^(8*(i%4))%256:Nat) hs oM (fun w16 hs=>?_)
 have hl17:((l).set (((((nb a)+7)/8:Nat)-1:Nat)-i:Nat) ((lim a).getD (i/4) 0/2^(8*(i%4))%256:Nat)).length=(((nb a)+7)/8:Nat):=by rw[List.length_set];exact hll
 replace hs:=hs.to [⟨b3,5,((l).set (((((nb a)+7)/8:Nat)-1:Nat)-i:Nat) ((lim a).getD (i/4) 0/2^(8*(i%4))%256:Nat)).flatMap u8c⟩] []
 refine lN (CG.listed (lL hs [.m 15 5] (lIn 16 ((i:Nat)+1) (i+1) ?_)))
 refine lL hs [.m 5 16] (lD ?_)
 intro a_ ka
 have q18:(i+1)≤((nb a+7)/8):=by omega
 have q19:((l).set (((((nb a)+7)/8:Nat)-1:Nat)-i:Nat) ((lim a).getD (i/4) 0/2^(8*(i%4))%256:Nat)).length=((nb a+7)/8):=hl17
 have q20:∀ j,j<(i+1)→((l).set (((((nb a)+7)/8:Nat)-1:Nat)-i:Nat) ((lim a).getD (i/4) 0/2^(8*(i%4))%256:Nat)).getD (((nb a+7)/8)-1-j) 0=a/256^j%256:=(set_from_top hll oM hg (byte_lim a i))
 refine ⟨_,_,?_,⟨i+1,(l).set (((((nb a)+7)/8:Nat)-1:Nat)-i:Nat) ((lim a).getD (i/4) 0/2^(8*(i%4))%256:Nat),h8,rfl,rfl,hs.to _ _,q18,q19,q20⟩,ka.to [(0,.slice A ((lim a).length) c),(2,.slice none 0 0),(3,.int .i64 (((nb a)+7)/8:Nat)),(4,.slice (some ⟨b3,0,none⟩) (((nb a)+7)/8:Nat) (((nb a)+7)/8:Nat)),(5,.int .i64 ((i+1):Nat))] kR⟩
 omega
theorem lowL_init {n m:Nat}(h:n<256^m):∀ j,j<(m+3)/4→(List.replicate ((m+3)/4) 0).getD j 0=lowL n (m-0) j:=fun j hj=>by
  rw[Nat.sub_zero,lowL_top h];simp[hj]
theorem lowL_next {l:List Nat}{n m i x:Nat}(hi:i<m)(hl:l.length=(m+3)/4)(hv:∀ j,j<(m+3)/4→l.getD j 0=lowL n (m-i) j)(hx:x=lowL n (m-1-i) ((m-1-i)/4)) :
    ∀ j,j<(m+3)/4→(l.set ((m-1-i)/4) x).getD j 0=lowL n (m-(i+1)) j:=by
  intro j hj
  rw[show m-(i+1)=m-1-i by omega]
  by_cases e:j=(m-1-i)/4
  · subst e
    have:(m-1-i)/4<l.length:=by omega
    simp[this,hx]
  · rw[lowL_step,if_neg e,show m-1-i+1=m-i by omega,←hv j hj]
    simp only[List.getD_eq_getElem?_getD]
    rw[List.getElem?_set_ne (Ne.symm e)]
theorem from_or {n k:Nat}:lowL n (k+1) (k/4) ||| (n/256^k%256)*2^(8*(k%4))=lowL n k (k/4):=by rw[lowL_step n k (k/4),if_pos rfl]
theorem shl_fit32 {b k:Nat}(hb:b<256):b*2^(8*(k%4))<4294967296:=by
  have:k%4=0∨k%4=1∨k%4=2∨k%4=3:=by omega
  rcases this with e|e|e|e<;>rw[e]<;>omega
theorem from_fin {l:List Nat}{n m:Nat}(hn:n<256^m)(hl:l.length=(m+3)/4)(hv:∀ j,j<(m+3)/4→l.getD j 0=lowL n (m-m) j):bval 4294967296 l=n∧Ld l:=by
  constructor
  · rw[←nval_bval]
    refine nval_of_digits l n (fun j hj=>by rw[hv j oM,Nat.sub_self,lowL_zero]) ?_
    refine Nat.lt_of_lt_of_le hn ?_
    rw[hl,show (256:Nat)=2^8 by rfl,show (4294967296:Nat)=2^32 by rfl,←Nat.pow_mul,←Nat.pow_mul]
    exact Nat.pow_le_pow_right oM oM
  · intro x hx
    obtain ⟨j,hj,rfl⟩:=List.mem_iff_getElem.1 hx
    have:=hv j oM
    have e:l[j]=l.getD j 0:=by simp[hj]
    rw[e,this]
    exact lowL_lt _ _ _
theorem rNatFrom (n m:Nat)(A:Option Addr)(cap:Nat)(hc:m≤cap)(hm:m≤1099511627776)(hn:n<256^m)(w:World)(h:Hp)(g:G w h)(hA:SlO 1 u8c 0 h A (byt n m)) :
    Calls Tryz.prog 148 #[.slice A m cap] w (Ret w h fun v h1=>RN h1 v n):=by
 have hs:=SS.start g
 replace hs:=(hs.a_SlO hA)
 have hbl:=byt_len n m
 refine go Tryz.func148 [(0,.slice A m cap)] rfl ?_
 refine cSL (lL hs [.v 2 (.slice none 0 0)] (lNS (lL hs [.m 6 0,.v 7 (.int .i64 (m:Nat))] (lIn 8 ((m:Nat)+3) (m+3) ?_))))
 refine lV 9 (.int .i64 ((m+3)/4:Nat)) ?_ (hr:=rint (opQuo (t:=3) (u:=3) (x:=.tmp 8) (y:=.const (.int .i64 4)) (k:=.i64) (a:=((m+3:Nat):Int)) (b:=(4:Int)) kR kR kR oM _) (quoI64 (m+3) 4 oM))
 refine lK 10 159 ((m+3)/4) 1 4 (.int .u32 0) u32c 0 hs (fun b1 w2 h3 hs=>?_)
 have hl4:(List.replicate ((m+3)/4) 0).length=((m+3)/4):=by simp
 refine lL hs [.m 3 10] (lN (CG.seq (cSL (lL hs [.v 4 (.int .i64 0)] (lN (CG.block (cTo [(0,.slice A m cap),(2,.slice none 0 0),(3,.slice (some ⟨b1,0,none⟩) ((m+3)/4) ((m+3)/4)),(4,.int .i64 0)] ?_)))))))
 refine CG.loop (fun μ_ Γ w_=>∃ (i:Nat) (l:List Nat) (h_:Hp),μ_=m-i∧Γ=[(0,.slice A m cap),(2,.slice none 0 0),(3,.slice (some ⟨b1,0,none⟩) ((m+3)/4) ((m+3)/4)),(4,.int .i64 (i:Nat))]∧SS w h w_ h_ [⟨b1,159,(l).flatMap u32c⟩] [] [fun h_=>SlO 1 u8c 0 h_ A (byt n m)]∧(i≤m)∧(l.length=(m+3)/4)∧(∀ j,j<(m+3)/4→l.getD j 0=lowL n (m-i) j)) _ ⟨0,List.replicate ((m+3)/4) 0,h3,rfl,rfl,hs.to _ _,Nat.zero_le _,hl4,(lowL_init hn)⟩ ?_
 rintro _ _ w5 ⟨i,l,h6,hm7,rfl,hs,hi,hll,hv⟩
 refine CG.seq (cSL (lL hs [.m 11 4,.m 12 0,.v 13 (.int .i64 (m:Nat))] ?_))
 cases hb8:(decide (((i:Nat):Int)<((m:Nat):Int)))
 ·
  have phb8:=oF hb8
  refine lB 14 hb8 ?_
  refine lN (cIF (CG.exit ?_))
  show CG _ _ _ _ _ _ _ _
  refine cSL (lL hs [.m 42 3] ?_)
  have him:i=m:=by omega
  rw[him] at hv
  obtain ⟨hf1,hf2⟩:=from_fin hn hll hv
  obtain ⟨h9,hs,sg10,lo11,bc12⟩:=hs.pub 0
  replace hs:=(hs.to [] []).a_SlO (SlO.of_flat (sz:=1) (f:=u32c) (d:=0) (b:=b1) (o:=0) (l:=l) (fun _=>rfl) sg10)
  refine lC 43 hs (rTrim (some ⟨b1,0,none⟩) ((m+3)/4) l ((m+3)/4) hll oM oM _ _ hs.g (hs.f.1)) ?_
  rintro _ w14 h15 hs rfl
  exact lL hs [.m 2 43] (lN (CG.ret (hs.ret [] (.slice (some ⟨b1,0,none⟩) (tl l ((m+3)/4)) ((m+3)/4)) (RN.trim hf2 hf1 hll oM (hs.f.1)))))
 have phb8:=oT hb8
 refine lB 14 hb8 ?_
 refine lN (cIT (CG.skipN (CG.seq (CG.block (cSL (lL hs [.m 17 0,.v 18 (.int .i64 (m:Nat))] (lIn 19 ((m:Nat)-1) (m-1) ?_)))))))
 refine lL hs [.m 20 4] (lIn 21 ((m-1:Nat)-(i:Nat)) ((m-1)-i) ?_)
 refine lL hs [.m 5 21] (lN (cR 19 [] mixed hs al_nil ?_))
 refine eV 0 22 (.slice (some ⟨b1,0,none⟩) ((m+3)/4) ((m+3)/4)) ?_
 refine eV 1 23 (.int .i64 ((m-1)-i:Nat)) ?_
 refine eV 2 24 (.int .i64 (((m-1)-i)/4:Nat)) ?_ (hv:=fun _=>rint (opQuo (t:=3) (u:=3) (x:=.tmp 23) (y:=.const (.int .i64 4)) (k:=.i64) (a:=(((m-1)-i:Nat):Int)) (b:=(4:Int)) kR kR kR oM _) (quoI64 ((m-1)-i) 4 oM))
 refine eV 3 25 (.slice (some ⟨b1,0,none⟩) ((m+3)/4) ((m+3)/4)) ?_
 refine eV 4 26 (.int .i64 ((m-1)-i:Nat)) ?_
 refine eV 5 27 (.int .i64 (((m-1)-i)/4:Nat)) ?_ (hv:=fun _=>rint (opQuo (t:=3) (u:=3) (x:=.tmp 26) (y:=.const (.int .i64 4)) (k:=.i64) (a:=(((m-1)-i:Nat):Int)) (b:=(4:Int)) kR kR kR oM _) (quoI64 ((m-1)-i) 4 oM))
 refine eX 6 28 (some ⟨b1,0,none⟩) ((m+3)/4) ((m+3)/4) 1 (((m-1)-i)/4:Nat) (((m-1)-i)/4:Nat) rfl ?_
 refine eQ 7 29 0 l u32c 1 0 (((m-1)-i)/4:Nat) (.int .u32 ((l).getD (((m-1)-i)/4:Nat) 0:Nat)) hs oM ?_
 refine eV 8 30 (.slice A m cap) ?_
 refine eV 9 31 (.int .i64 (i:Nat)) ?_
 refine eX 10 32 A m cap 1 (i:Nat) i ((hs.f.1).ok oM) ?_
 have hvk:=hv ((m-1-i)/4) oM
 have hor:l.getD ((m-1-i)/4) 0 ||| (n/256^(m-1-i)%256)*2^(8*((m-1-i)%4))=lowL n (m-1-i) ((m-1-i)/4):=by rw[hvk,show m-i=m-1-i+1 by omega];exact from_or
 have hlt:l.getD ((m-1-i)/4) 0<4294967296:=by rw[hvk];exact lowL_lt _ _ _
 have hvk:=hv ((m-1-i)/4) oM
 have hor:l.getD ((m-1-i)/4) 0 ||| (n/256^(m-1-i)%256)*2^(8*((m-1-i)%4))=lowL n (m-1-i) ((m-1-i)/4):=by rw[hvk,show m-i=m-1-i+1 by omega];exact from_or
 have hlt:l.getD ((m-1-i)/4) 0<4294967296:=by rw[hvk];exact lowL_lt _ _ _
 refine eHe 11 33 (.int .u8 ((byt n m).getD i 0:Nat)) hs ((hs.f.1).el i oM) (by rw[byt_get n m _ oM]) ?_
 refine eV 12 34 (.int .u32 (n/256^(m-1-i)%256:Nat)) ?_ (hv:=fun _=>rint (n:=IntKind.wrap .u32 ((n/256^(m-1-i)%256:Nat):Int)) kR (fitU32 oM oM))
 refine eV 13 35 (.int .i64 ((m-1)-i:Nat)) ?_
 refine eV 14 36 (.int .i64 (((m-1)-i)%4:Nat)) ?_ (hv:=fun _=>rint (opRem (t:=3) (u:=3) (x:=.tmp 35) (y:=.const (.int .i64 4)) (k:=.i64) (a:=(((m-1)-i:Nat):Int)) (b:=(4:Int)) kR kR kR oM _) (tmodNat ((m-1)-i) 4))
 refine eIn 15 37 (8*(((m-1)-i)%4:Nat)) (8*(((m-1)-i)%4:Nat)) ?_
 refine eV 16 38 (.int .u64 (8*(((m-1)-i)%4:Nat):Nat)) ?_ (hv:=fun _=>rint (n:=IntKind.wrap .u64 ((8*(((m-1)-i)%4:Nat):Nat):Int)) kR (fitU64 oM oM))
 refine eV 17 39 (.int .u32 ((n/256^(m-1-i)%256)*2^(8*((m-1-i)%4)):Nat)) ?_ (hv:=fun _=>opShlU32 (t:=159) (u:=160) (x:=.tmp 34) (y:=.tmp 38) (ky:=.u64) (a:=n/256^(m-1-i)%256) (n:=8*((m-1-i)%4)) kR kR kR oM (shl_fit32 oM) _)
 refine eV 18 40 (.int .u32 (lowL n (m-1-i) ((m-1-i)/4):Nat)) ?_ (hv:=fun _=>rint (opOr32 (t:=159) (u:=159) (x:=.tmp 29) (y:=.tmp 39) (a:=l.getD ((m-1-i)/4) 0) (b:=(n/256^(m-1-i)%256)*2^(8*((m-1-i)%4))) kR kR kR hlt (shl_fit32 oM) _) (congrArg Int.ofNat hor))
 refine eD0 hs (fun w16 h17 hs=>?_)
 refine tX 19 41 (some ⟨b1,0,none⟩) ((m+3)/4) ((m+3)/4) 1 (((m-1)-i)/4:Nat) (((m-1)-i)/4:Nat) rfl ?_
 refine tW 20 0 l u32c 1 (((m-1)-i)/4:Nat) (lowL n (m-1-i) ((m-1-i)/4):Nat) hs oM (fun w18 hs=>?_)
 have hl19:((l).set (((m-1)-i)/4:Nat) (lowL n (m-1-i) ((m-1-i)/4):Nat)).length=((m+3)/4):=by rw[List.length_set];exact hll
 replace hs:=hs.to [⟨b1,159,((l).set (((m-1)-i)/4:Nat) (lowL n (m-1-i) ((m-1-i)/4):Nat)).flatMap u32c⟩] []
 refine tN (CG.listed (lL hs [.m 15 4] (lIn 16 ((i:Nat)+1) (i+1) ?_)))
 refine lL hs [.m 4 16] (lD ?_)
 intro a_ ka
 have q20:(i+1)≤m:=by omega
 have q21:((l).set (((m-1)-i)/4:Nat) (lowL n (m-1-i) ((m-1-i)/4):Nat)).length=(m+3)/4:=hl19
 have q22:∀ j,j<(m+3)/4→((l).set (((m-1)-i)/4:Nat) (lowL n (m-1-i) ((m-1-i)/4):Nat)).getD j 0=lowL n (m-(i+1)) j:=(lowL_next oM hll hv rfl)
 refine ⟨_,_,?_,⟨i+1,(l).set (((m-1)-i)/4:Nat) (lowL n (m-1-i) ((m-1-i)/4):Nat),h17,rfl,rfl,hs.to _ _,q20,q21,q22⟩,ka.to [(0,.slice A m cap),(2,.slice none 0 0),(3,.slice (some ⟨b1,0,none⟩) ((m+3)/4) ((m+3)/4)),(4,.int .i64 ((i+1):Nat))] kR⟩
 omega
theorem LQ.ln {q:Rat}(h:LQ 100000000 q):(lim (iabs q.num)).length≤300000000:=Nat.le_trans (lim_wds _) (by have:=h.1;omega)
theorem LQ.ld {q:Rat}(h:LQ 100000000 q):(lim q.den).length≤300000000:=Nat.le_trans (lim_wds _) (by have:=h.2;omega)
theorem LQ.sub {k l:Nat}{a b:Rat}(ha:LQ k a)(hb:LQ l b):LQ (k+l+1) (a-b):=by rw[Rat.sub_eq_add_neg];exact ha.add hb.neg
theorem LQ.inv {k:Nat}{q:Rat}(h:LQ k q):LQ k q⁻¹:=by
  by_cases hz:q.num=0
  · have:q=0:=by rw[←Rat.num_eq_zero];exact hz
    subst this;rw[Rat.inv_zero];exact h
  · obtain ⟨h1,h2⟩:=rat_inv q hz
    exact ⟨by rw[h1,iabs_sgn];exact h.2,by rw[h2];exact h.1⟩
theorem LQ.div {k l:Nat}{a b:Rat}(ha:LQ k a)(hb:LQ l b):LQ (k+l) (a/b):=by rw[Rat.div_def];exact ha.mul hb.inv
theorem LQ.int {z:Int}(h0 : -9223372036854775808≤z)(h1:z≤9223372036854775807):LQ 1 (z:Rat):=⟨by rw[Rat.num_intCast];exact wds_len_lit.2 (by unfold iabs;omega),by rw[Rat.den_intCast];exact wds_len_lit.2 oM⟩
theorem LQ.lit {z:Int}(h : -9223372036854775808≤z∧z≤9223372036854775807):LQ 1 (z:Rat):=LQ.int h.1 h.2
def dotq (a b:List Rat):Nat→Rat
  | 0=>0
  | k+1=>dotq a b k+a.getD k 0*b.getD k 0
theorem LQ.dot {a b:List Rat}{k l n:Nat}(ha:∀ i,i<n→LQ k (a.getD i 0))(hb:∀ i,i<n→LQ l (b.getD i 0)):∀ i,i≤n→LQ (i*(k+l+1)+1) (dotq a b i)
  | 0,_=>by rw[Nat.zero_mul];exact LQ.lit (z:=0) kD
  | i+1,h=>by
    have h1:=(LQ.dot ha hb i oM).add ((ha i oM).mul (hb i oM))
    refine LQ.mono h1 ?_
    rw[Nat.succ_mul];omega
theorem rNatDivS (a:Nat)(A:Option Addr)(c:Nat)(hc:(lim a).length≤c)(b:Nat)(D:Option Addr)(d:Nat)(hd:(lim b).length≤d)(hLa:(lim a).length≤3000000000)(hLb:(lim b).length≤1)(hb:0<b)(w:World)(h:Hp)(g:G w h)(hA:SlO 1 u32c 0 h A (lim a))(hD:SlO 1 u32c 0 h D (lim b)) :
    Calls Tryz.prog 120 #[.slice A (lim a).length c,.slice D (lim b).length d] w (Ret w h fun v h1=>∃ v1 v2,v=.tuple #[v1,v2]∧RN h1 v1 (a/b)∧RN h1 v2 (a%b)):=by
  have hp:=lim_pos.2 hb
  rcases Nat.lt_or_ge a b with h1|h1
  · exact rNatDivLt a A c hc b D d hd hLa oM h1 w h g hA hD
  · exact rNatDivOne a A c hc b D d hd hLa oM h1 oM w h g hA hD
theorem rNatGcdS (a:Nat)(A:Option Addr)(c:Nat)(hc:(lim a).length≤c)(b:Nat)(D:Option Addr)(d:Nat)(hd:(lim b).length≤d)(hLa:(lim a).length≤3000000000)(hLb:(lim b).length≤1)(w:World)(h:Hp)(g:G w h)(hA:SlO 1 u32c 0 h A (lim a))(hD:SlO 1 u32c 0 h D (lim b)) :
    Calls Tryz.prog 119 #[.slice A ((lim a).length) c,.slice D ((lim b).length) d] w (Ret w h fun v h1=>RN h1 v (Nat.gcd a b)):=by
 have hs:=SS.start g
 replace hs:=((hs.a_SlO hA).a_SlO hD)
 refine go Tryz.func119 [(0,.slice A ((lim a).length) c),(1,.slice D ((lim b).length) d)] rfl ?_
 refine cSL (lL hs [.v 4 (.slice none 0 0)] (lN (CG.seq (CG.block (cTo [(4,.slice none 0 0),(0,.slice A ((lim a).length) c),(1,.slice D ((lim b).length) d)] ?_)))))
 replace hs:=hs.add (K:=fun h_=>SlO 1 u32c 0 h_ D (lim b)) ((hs.f.1))
 replace hs:=hs.add (K:=fun h_=>SlO 1 u32c 0 h_ A (lim a)) ((hs.f.2.2.1))
 refine CG.loop (fun μ_ Γ w_=>∃ (x:Nat) (A1:Option Addr) (c1:Nat) (y:Nat) (A2:Option Addr) (c2:Nat) (h_:Hp),μ_=y∧Γ=[(4,.slice none 0 0),(0,.slice A1 ((lim x).length) c1),(1,.slice A2 ((lim y).length) c2)]∧SS w h w_ h_ [] [] [fun h_=>SlO 1 u32c 0 h_ A1 (lim x),fun h_=>SlO 1 u32c 0 h_ A2 (lim y),fun h_=>SlO 1 u32c 0 h_ D (lim b),fun h_=>SlO 1 u32c 0 h_ A (lim a)]∧((lim x).length≤c1)∧((lim y).length≤c2)∧((lim x).length≤3000000000)∧((lim y).length≤1)∧(Nat.gcd x y=Nat.gcd a b)) _ ⟨a,A,c,b,D,d,h,rfl,rfl,hs.to _ _,hc,hd,hLa,hLb,rfl⟩ ?_
 rintro _ _ w1 ⟨x,A1,c1,y,A2,c2,h2,hm3,rfl,hs,hc1,hc2,hl1,hl2,hG⟩
 refine CG.seq (cSL (lL hs [.m 7 1,.v 8 (.int .i64 ((lim y).length:Nat))] ?_))
 cases hb4:(decide ((0:Int)<(((lim y).length:Nat):Int)))
 ·
  have phb4:=oF hb4
  refine lB 9 hb4 ?_
  refine lN (cIF (CG.exit ?_))
  show CG _ _ _ _ _ _ _ _
  refine cSL (lL hs [.m 18 0,.m 4 18] (lN (CG.ret ?_)))
  have hy0:y=0:=Nat.eq_zero_of_not_pos (fun h_=>by have:=lim_pos.2 h_;omega)
  exact hs.ret [] (.slice A1 ((lim x).length) c1) (by rw[←hG,hy0,Nat.gcd_zero_right];exact ⟨A1,c1,rfl,hc1,(hs.f.1)⟩)
 have phb4:=oT hb4
 refine lB 9 hb4 ?_
 refine lN (cIT (CG.skipN (CG.block (cSL (lL hs [.m 11 0,.m 12 1] (lC 13 hs (rNatDivS x A1 c1 hc1 y A2 c2 hc2 oM oM (lim_pos.1 oM) _ _ hs.g (hs.f.1) (hs.f.2.1)) ?_))))))
 rintro _ w5 h6 hs ⟨_,_,rfl,⟨Aq,cq,rfl,hcq,hq⟩,⟨Ar,cr,rfl,hcr,hr⟩⟩
 replace hs:=(hs.a_SlO hr)
 have hmd:=Nat.mod_lt x (lim_pos.1 (show 0<(lim y).length by omega))
 have hml:=lim_len_mono (show x%y≤y by omega)
 refine lL hs [.m 10 13,.v 14 (.slice Aq (lim (x/y)).length cq),.v 15 (.slice Ar ((lim (x%y)).length) cr),.m 5 14,.m 6 15] (lNS (lL hs [.m 16 1,.m 0 16] (lN (CG.listed (lL hs [.m 17 6,.m 1 17] (lD ?_))))))
 intro a_ ka
 have q7:SlO 1 u32c 0 h6 A2 (lim y):=(hs.f.2.2.1)
 have q8:SlO 1 u32c 0 h6 Ar (lim (x%y)):=(hs.f.1)
 have q9:(lim y).length≤c2:=hc2
 have q10:(lim (x%y)).length≤cr:=hcr
 have q11:(lim y).length≤3000000000:=oM
 have q12:(lim (x%y)).length≤1:=oM
 have q13:Nat.gcd y (x%y)=Nat.gcd a b:=(by rw[gcd_mod_swapL];exact hG)
 replace hs:=((hs.tl.tl.tl.add (K:=fun h_=>SlO 1 u32c 0 h_ Ar (lim (x%y))) q8).add (K:=fun h_=>SlO 1 u32c 0 h_ A2 (lim y)) q7)
 refine ⟨_,_,?_,⟨y,A2,c2,x%y,Ar,cr,h6,rfl,rfl,hs.to _ _,q9,q10,q11,q12,q13⟩,ka.to [(4,.slice none 0 0),(0,.slice A2 ((lim y).length) c2),(1,.slice Ar ((lim (x%y)).length) cr)] kR⟩
 omega
theorem rNatGcdES (a:Nat)(A:Option Addr)(c:Nat)(hc:(lim a).length≤c)(b:Nat)(D:Option Addr)(d:Nat)(hd:(lim b).length≤d)(q:Nat)(hq:q=Nat.gcd a b)(hLa:(lim a).length≤3000000000)(hLb:(lim b).length≤1)(w:World)(h:Hp)(g:G w h)(hA:SlO 1 u32c 0 h A (lim a))(hD:SlO 1 u32c 0 h D (lim b)) :
    Calls Tryz.prog 119 #[.slice A (lim a).length c,.slice D (lim b).length d] w (Ret w h fun v h1=>RN h1 v q):=by
  subst hq;exact rNatGcdS a A c hc b D d hd hLa hLb w h g hA hD
theorem lim_small1 {z:Int}(h0 : -4294967296<z)(h1:z<4294967296):(lim (iabs z)).length≤1:=lim_len_le (by unfold iabs;omega)
theorem rMakeS (x:Int)(A:Option Addr)(c:Nat)(hc:(lim (iabs x)).length≤c)(hLx:(lim (iabs x)).length≤2000000000)(y:Int)(D:Option Addr)(d:Nat)(hd:(lim (iabs y)).length≤d)(hLy:(lim (iabs y)).length≤1)(hd0:y≠0)(w:World)(h:Hp)(g:G w h)(hA:SlO 1 u32c 0 h A (lim (iabs x)))(hD:SlO 1 u32c 0 h D (lim (iabs y))) :
    Calls Tryz.prog 88 #[.agg #[.bool (ineg x),.slice A ((lim (iabs x)).length) c],.agg #[.bool (ineg y),.slice D ((lim (iabs y)).length) d]] w (Ret w h fun v h1=>RQ h1 v (mkR x y)):=by
 have hs:=SS.start g
 replace hs:=((hs.a_SlO hA).a_SlO hD)
 obtain ⟨hm1,hm2,hq0⟩:=mkR_parts x y hd0
 obtain ⟨q,hq⟩:∃ q,q=Nat.gcd (iabs x) (iabs y):=⟨_,rfl⟩
 rw[←hq] at hm1 hm2 hq0
 have hql:(lim q).length≤1:=lim_len_le' (by rw[hq];exact Nat.gcd_le_right _ (by unfold iabs;omega)) hLy
 refine go Tryz.func88 [(0,.agg #[.bool (ineg x),.slice A ((lim (iabs x)).length) c]),(1,.agg #[.bool (ineg y),.slice D ((lim (iabs y)).length) d])] rfl ?_
 refine cSL (lA 2 72 ([.bool (ineg x),.slice A ((lim (iabs x)).length) c]) hs (fun b1 w2 h3 hs=>?_))
 refine lA 3 72 ([.bool (ineg y),.slice D ((lim (iabs y)).length) d]) hs (fun b4 w5 h6 hs=>?_)
 refine lA 4 74 ([.bool false,.slice none 0 0,.slice none 0 0]) hs (fun b7 w8 h9 hs=>?_)
 refine lNS (lL hs [.v 10 (.pointer (some ⟨b1,1,none⟩)),.o 11 (.slice A ((lim (iabs x)).length) c) 2 1 1,.v 12 (.pointer (some ⟨b4,1,none⟩)),.o 13 (.slice D ((lim (iabs y)).length) d) 1 1 1] (lC 14 hs (rNatGcdES (iabs x) A c hc (iabs y) D d hd q hq oM oM _ _ hs.g (hs.f.2.1) (hs.f.1)) ?_))
 rintro _ w14 h15 hs ⟨A10,c11,rfl,hc12,hA13⟩
 replace hs:=(hs.a_SlO hA13)
 refine lL hs [.m 5 14] (lNS (lL hs [.v 16 (.pointer (some ⟨b1,1,none⟩)),.o 17 (.slice A ((lim (iabs x)).length) c) 2 1 1,.m 18 5] (lC 19 hs (rNatDivS (iabs x) A c hc q A10 c11 hc12 oM oM hq0 _ _ hs.g (hs.f.2.2.1) (hs.f.1)) ?_)))
 rintro _ w20 h21 hs ⟨_,v2_A16,rfl,⟨A16,c17,rfl,hc18,hA19⟩,-⟩
 replace hs:=(hs.a_SlO hA19)
 refine lL hs [.m 15 19,.v 20 (.slice A16 ((lim ((iabs x)/q)).length) c17),.v 21 v2_A16,.m 6 20,.m 7 21] (lNS (lL hs [.v 23 (.pointer (some ⟨b4,1,none⟩)),.o 24 (.slice D ((lim (iabs y)).length) d) 1 1 1,.m 25 5] (lC 26 hs (rNatDivS (iabs y) D d hd q A10 c11 hc12 oM oM hq0 _ _ hs.g (hs.f.2.2.1) (hs.f.2.1)) ?_)))
 rintro _ w26 h27 hs ⟨_,v2_A22,rfl,⟨A22,c23,rfl,hc24,hA25⟩,-⟩
 replace hs:=(hs.a_SlO hA25)
 refine lL hs [.m 22 26,.v 27 (.slice A22 ((lim ((iabs y)/q)).length) c23),.v 28 v2_A22,.m 8 27,.m 9 28] (lNS (lL hs [.v 29 (.pointer (some ⟨b1,0,none⟩)),.o 30 (.bool (ineg x)) 2 0 1,.v 31 (.pointer (some ⟨b4,0,none⟩)),.o 32 (.bool (ineg y)) 1 0 1,.v 33 (.bool ((ineg x) != (ineg y))),.m 34 6] (lC 35 hs (rI ((ineg x) != (ineg y)) ((iabs x)/q) A16 c17 hc18 _ _ hs.g (hs.f.2.1)) ?_)))
 rintro _ w32 h33 hs ⟨A28,c29,rfl,hc30,hA31⟩
 replace hs:=(hs.a_SlO hA31)
 refine lL hs [.m 36 8,.v 37 (.agg #[.bool (ineg (sgn ((ineg x) != (ineg y)) ((iabs x)/q))),.slice A28 ((lim (iabs (sgn ((ineg x) != (ineg y)) ((iabs x)/q)))).length) c29,.slice A22 ((lim ((iabs y)/q)).length) c23])] (lP 0 0 ([.bool (ineg (sgn ((ineg x) != (ineg y)) ((iabs x)/q))),.slice A28 ((lim (iabs (sgn ((ineg x) != (ineg y)) ((iabs x)/q)))).length) c29,.slice A22 ((lim ((iabs y)/q)).length) c23]) hs (fun w34 hs=>?_))
 exact lN (CG.ret (hs.ret [(0,0,3)] (.agg #[.bool (ineg (sgn ((ineg x) != (ineg y)) ((iabs x)/q))),.slice A28 ((lim (iabs (sgn ((ineg x) != (ineg y)) ((iabs x)/q)))).length) c29,.slice A22 ((lim ((iabs y)/q)).length) c23]) (by unfold RQ;rw[hm1,hm2];exact ⟨_,_,_,_,rfl,hc30,hc24,(hs.f.1),(hs.f.2.1)⟩)))
theorem rOverS (x y:Int)(hy0:y≠0)(h0 : -9223372036854775808≤x)(h1:x<9223372036854775808)(h2 : -4294967296<y)(h3:y<4294967296)(w:World)(h:Hp)(g:G w h) :
    Calls Tryz.prog 71 #[.int .i64 x,.int .i64 y] w (Ret w h fun v h1=>RQ h1 v (mkR x y)):=by
 have hs:=SS.start g
 have hx_:=lim_small h0 h1
 have hy_:=lim_small1 h2 h3
 refine go Tryz.func71 [(0,.int .i64 x),(1,.int .i64 y)] rfl ?_
 refine cSL (lA 4 74 ([.bool false,.slice none 0 0,.slice none 0 0]) hs (fun b1 w2 h3 hs=>?_))
 refine lNS (lL hs [.m 5 0] (lC 6 hs (rIntOf x oM oM _ _ hs.g) ?_))
 rintro _ w8 h9 hs ⟨A4,c5,rfl,hc6,hA7⟩
 replace hs:=(hs.a_SlO hA7)
 refine lL hs [.m 7 1] (lC 8 hs (rIntOf y oM oM _ _ hs.g) ?_)
 rintro _ w14 h15 hs ⟨A10,c11,rfl,hc12,hA13⟩
 replace hs:=(hs.a_SlO hA13)
 refine lC 9 hs (rMakeS x A4 c5 hc6 oM y A10 c11 hc12 oM hy0 _ _ hs.g (hs.f.2.1) (hs.f.1)) ?_
 rintro _ w24 h25 hs ⟨A16,c17,A20,c21,rfl,hc18,hc22,hA19,hA23⟩
 replace hs:=((hs.a_SlO hA19).a_SlO hA23)
 refine lP 0 0 ([.bool (ineg (mkR x y).num),.slice A16 ((lim (iabs (mkR x y).num)).length) c17,.slice A20 ((lim (mkR x y).den).length) c21]) hs (fun w26 hs=>?_)
 exact lN (CG.ret (hs.ret [(0,0,3)] (.agg #[.bool (ineg (mkR x y).num),.slice A16 ((lim (iabs (mkR x y).num)).length) c17,.slice A20 ((lim (mkR x y).den).length) c21]) (by skip;exact ⟨_,_,_,_,rfl,hc18,hc22,(hs.f.2.1),(hs.f.1)⟩)))
theorem hNat (a:Nat)(A:Option Addr)(c:Nat)(hc:(lim a).length≤c)(hl:(lim a).length≤300000000)(w:World)(h:Hp)(g:G w h)(hA:SlO 1 u32c 0 h A (lim a)) :
    Calls Tryz.prog 81 #[.slice A ((lim a).length) c] w (Ret w h fun v _=>v=nv a):=by
 have hs:=SS.start g
 replace hs:=(hs.a_SlO hA)
 have hnb:=nb_len a
 refine go Tryz.func81 [(0,.slice A ((lim a).length) c)] rfl ?_
 refine cSL (lA 2 52 ([.int .u64 0,.string ⟨#[]⟩]) hs (fun b1 w2 h3 hs=>?_))
 refine lNS (lL hs [.m 3 0] (lC 4 hs (rNatBytes a A c hc oM _ _ hs.g (hs.f.1)) ?_))
 rintro _ w6 h7 hs ⟨A4,rfl,hA5⟩
 replace hs:=(hs.a_SlO hA5)
 refine lC 5 hs (nFromB a ((nb a+7)/8) A4 ((nb a+7)/8) (Nat.le_refl _) oM (lt256 a) _ _ hs.g (hs.f.1)) ?_
 rintro _ w8 h9 hs rfl
 refine lP 0 0 (nc a) hs (fun w10 hs=>?_)
 exact lN (CG.ret (hs.ret [(0,0,2)] (nv a) rfl))
theorem hInt (z:Int)(A:Option Addr)(c:Nat)(hc:(lim (iabs z)).length≤c)(hl:(lim (iabs z)).length≤300000000)(w:World)(h:Hp)(g:G w h)(hA:SlO 1 u32c 0 h A (lim (iabs z))) :
    Calls Tryz.prog 80 #[.agg #[.bool (ineg z),.slice A ((lim (iabs z)).length) c]] w (Ret w h fun v _=>v=iv z):=by
 have hs:=SS.start g
 replace hs:=(hs.a_SlO hA)
 have hwl:=wds_lim (iabs z)
 refine go Tryz.func80 [(0,.agg #[.bool (ineg z),.slice A ((lim (iabs z)).length) c])] rfl ?_
 refine cSL (lA 1 72 ([.bool (ineg z),.slice A ((lim (iabs z)).length) c]) hs (fun b1 w2 h3 hs=>?_))
 refine lA 2 54 ([.bool false,.int .u64 0,.string ⟨#[]⟩]) hs (fun b4 w5 h6 hs=>?_)
 refine lN (CG.seq (cR 6 [] mixed hs al_nil ?_))
 refine eV 0 3 (.pointer (some ⟨b1,0,none⟩)) ?_
 refine eO 1 4 [(1,0,1)] (.bool (ineg z)) hs ?_
 refine eV 2 5 (.pointer (some ⟨b1,1,none⟩)) ?_
 refine eO 3 6 [(1,1,1)] (.slice A ((lim (iabs z)).length) c) hs ?_
 refine eC 4 7 hs (fun _ _ hs=>hNat (iabs z) A c hc (by first|exact hl|exact LQ.ld hq|omega) _ _ hs.g (hs.f.1)) ?_
 rintro _ _ _ w7 h8 hs rfl
 refine eC 5 8 hs (fun _ _ hs=>wFrom (ineg z) (iabs z) oM _ _ hs.g) ?_
 rintro _ _ _ w9 h10 hs rfl
 refine eD0 hs (fun w11 h12 hs=>?_)
 refine tP 6 0 0 (ic (sgn (ineg z) (iabs z))) hs (fun w13 hs=>?_)
 exact tN (CG.ret (hs.ret [(0,0,3)] (iv (sgn (ineg z) (iabs z))) (congrArg iv (sgn_self z))))
theorem mkR_self (q:Rat):mkR q.num ((q.den:Nat):Int)=q:=by
  unfold mkR;rw[if_neg oM];show mkRat q.num q.den=q;rw[Rat.mkRat_self]
theorem hIn (q:Rat)(A1:Option Addr)(c1:Nat)(D1:Option Addr)(d1:Nat)(hc1:(lim (iabs q.num)).length≤c1)(hd1:(lim q.den).length≤d1)(hq:LQ 100000000 q)(w:World)(h:Hp)(g:G w h)(hA1:SlO 1 u32c 0 h A1 (lim (iabs q.num)))(hD1:SlO 1 u32c 0 h D1 (lim q.den))(tb:Tab h) :
    Calls Tryz.prog 36 #[.agg #[.bool (ineg q.num),.slice A1 ((lim (iabs q.num)).length) c1,.slice D1 ((lim q.den).length) d1]] w (Ret w h fun v _=>v=qv q):=by
 have hs:=SS.start g
 replace hs:=(((hs.a_SlO hA1).a_SlO hD1).add (K:=fun h_=>Tab h_) tb)
 refine go Tryz.func36 [(0,.agg #[.bool (ineg q.num),.slice A1 ((lim (iabs q.num)).length) c1,.slice D1 ((lim q.den).length) d1])] rfl ?_
 refine cSL (lA 1 74 ([.bool (ineg q.num),.slice A1 ((lim (iabs q.num)).length) c1,.slice D1 ((lim q.den).length) d1]) hs (fun b1 w2 h3 hs=>?_))
 refine lA 2 56 ([.bool false,.int .u64 0,.string ⟨#[]⟩,.int .u64 0,.string ⟨#[]⟩]) hs (fun b4 w5 h6 hs=>?_)
 refine lN (CG.seq ?_)
 have hsr:=hs
 refine cR 12 [⟨11,3,.cells (List.toArray [.bool false,.int .u64 0,.string ⟨#[]⟩,.int .u64 0,.string ⟨#[]⟩]) 56 (0,0)⟩] mixed hs (al_cons (alOk kR (fun _ _=>by kernel_rfl)) al_nil) ?_
 refine eV 0 6 (.pointer (some ⟨b1,0,none⟩)) ?_
 refine eO 1 7 [(1,0,2)] (.agg #[.bool (ineg q.num),.slice A1 ((lim (iabs q.num)).length) c1]) hs ?_
 refine eV 3 9 (.pointer (some ⟨b1,2,none⟩)) ?_
 refine eO 4 10 [(1,2,1)] (.slice D1 ((lim q.den).length) d1) hs ?_
 refine eC 2 8 hs (fun _ _ hs=>hInt q.num A1 c1 hc1 (LQ.ln hq) _ _ hs.g (hs.f.2.2.1)) ?_
 rintro _ _ _ w7 h8 hs rfl
 refine eC 5 11 hs (fun _ _ hs=>hNat q.den D1 d1 hd1 (by first|exact hl|exact LQ.ld hq|omega) _ _ hs.g (hs.f.2.1)) ?_
 rintro _ _ _ w9 h10 hs rfl
 refine eC 6 12 hs (fun _ _ hs=>wFromN q.den _ _ hs.g) ?_
 rintro _ _ _ w11 h12 hs rfl
 refine eC 7 13 hs (fun _ _ hs=>fMake q.num ((q.den:Nat):Int) (by have:=q.den_pos;omega) (by have:=hq.1;omega) (by show (wds q.den).length≤_;have:=hq.2;omega) _ _ hs.g (hs.f.1)) ?_
 rintro _ _ _ w13 h14 hs rfl
 refine eV 8 5 (.tuple #[qv (mkR q.num ((q.den:Nat):Int)),.bool true]) ?_
 refine eV 9 14 (qv (mkR q.num ((q.den:Nat):Int))) ?_
 refine eV 10 15 (.bool true) ?_
 refine eD1p [] hsr hs 56 [.bool false,.int .u64 0,.string ⟨#[]⟩,.int .u64 0,.string ⟨#[]⟩] (fun w15 h16 b17 hs=>?_)
 refine tP 12 0 0 (qc (mkR q.num ((q.den:Nat):Int))) hs (fun w18 hs=>?_)
 refine tV 13 4 (.bool true) ?_
 refine tNS ?_
 refine lL hs [.o 16 (qv (mkR q.num ((q.den:Nat):Int))) 0 0 5] (lP 1 0 (qc (mkR q.num ((q.den:Nat):Int))) hs (fun w19 hs=>?_))
 exact lN (CG.ret (hs.ret [(1,0,5)] (qv (mkR q.num ((q.den:Nat):Int))) (congrArg qv (mkR_self q))))
theorem hInV (v:Value)(q:Rat)(hq:LQ 100000000 q)(w:World)(h:Hp)(g:G w h)(hv:RQ h v q)(tb:Tab h):Calls Tryz.prog 36 #[v] w (Ret w h fun v _=>v=qv q):=by
  obtain ⟨A,c,B,d,rfl,h1,h2,h3,h4⟩:=hv
  exact hIn q A c B d h1 h2 hq w h g h3 h4 tb
theorem hOutNat (n:Nat)(hl:(wds n).length≤100000000)(w:World)(h:Hp)(g:G w h) :
    Calls Tryz.prog 123 #[nv n] w (Ret w h fun v h1=>RN h1 v n):=by
 have hs:=SS.start g
 have hnb:=nb_len64 n
 refine go Tryz.func123 [(0,nv n)] rfl ?_
 refine cSL (lA 1 52 (nc n) hs (fun b1 w2 h3 hs=>?_))
 refine lL hs [.v 2 (.slice none 0 0)] (lNS (lL hs [.o 3 (nv n) 0 0 2] (lC 4 hs (nBytes n oM _ _ hs.g) ?_)))
 rintro _ w6 h7 hs ⟨A4,rfl,hA5⟩
 replace hs:=(hs.a_SlO hA5)
 refine lC 5 hs (rNatFrom n ((nb n+7)/8) A4 ((nb n+7)/8) (Nat.le_refl _) oM (lt256 n) _ _ hs.g (hs.f.1)) ?_
 rintro _ w12 h13 hs ⟨A8,c9,rfl,hc10,hA11⟩
 replace hs:=(hs.a_SlO hA11)
 exact lL hs [.m 2 5] (lN (CG.ret (hs.ret [] (.slice A8 ((lim n).length) c9) (⟨_,_,rfl,hc10,(hs.f.1)⟩))))
theorem sgn_sgn (z:Int):sgn (decide (z.sign<(0:Int))) (iabs z)=z:=by
  rcases Int.lt_trichotomy z 0 with h|h|h
  · rw[Int.sign_eq_neg_one_of_neg h];unfold sgn iabs;simp;omega
  · subst h;rfl
  · rw[Int.sign_eq_one_of_pos h];unfold sgn iabs;simp;omega
theorem hOutInt (z:Int)(hl:(wds (iabs z)).length≤100000000)(w:World)(h:Hp)(g:G w h) :
    Calls Tryz.prog 121 #[iv z] w (Ret w h fun v h1=>RI h1 v z):=by
 have hs:=SS.start g
 refine go Tryz.func121 [(0,iv z)] rfl ?_
 refine cSL (lA 1 54 (ic z) hs (fun b1 w2 h3 hs=>?_))
 refine lA 2 72 ([.bool false,.slice none 0 0]) hs (fun b4 w5 h6 hs=>?_)
 refine lN (CG.seq (cR 7 [] mixed hs al_nil ?_))
 refine eO 0 3 [(1,0,3)] (iv z) hs ?_
 refine eO 3 6 [(1,0,3)] (iv z) hs ?_
 refine eC 1 4 hs (fun _ _ hs=>wSign z oM _ _ hs.g) ?_
 rintro _ _ _ w7 h8 hs rfl
 refine eV 2 5 (.bool (decide ((z.sign:Int)<(0:Int)))) ?_
 refine eC 4 7 hs (fun _ _ hs=>wAbs z _ _ hs.g) ?_
 rintro _ _ _ w9 h10 hs rfl
 refine eC 5 8 hs (fun _ _ hs=>hOutNat (iabs z) (by first|exact hq.2|omega) _ _ hs.g) ?_
 rintro _ _ _ w15 h16 hs ⟨A11,c12,rfl,hc13,hA14⟩
 replace hs:=(hs.a_SlO hA14)
 refine eC 6 9 hs (fun _ _ hs=>rI (decide ((z.sign:Int)<(0:Int))) (iabs z) A11 c12 hc13 _ _ hs.g (hs.f.1)) ?_
 rintro _ _ _ w21 h22 hs ⟨A17,c18,rfl,hc19,hA20⟩
 replace hs:=(hs.a_SlO hA20)
 refine eD0 hs (fun w23 h24 hs=>?_)
 refine tP 7 0 0 ([.bool (ineg (sgn (decide ((z.sign:Int)<(0:Int))) (iabs z))),.slice A17 ((lim (iabs (sgn (decide ((z.sign:Int)<(0:Int))) (iabs z)))).length) c18]) hs (fun w25 hs=>?_)
 exact tN (CG.ret (hs.ret [(0,0,2)] (.agg #[.bool (ineg (sgn (decide ((z.sign:Int)<(0:Int))) (iabs z))),.slice A17 ((lim (iabs (sgn (decide ((z.sign:Int)<(0:Int))) (iabs z)))).length) c18]) (by rw[sgn_sgn] at *;exact ⟨_,_,rfl,hc19,(hs.f.1)⟩)))
theorem hOut (q:Rat)(hq:LQ 100000000 q)(w:World)(h:Hp)(g:G w h) :
    Calls Tryz.prog 92 #[qv q] w (Ret w h fun v h1=>RQ h1 v q):=by
 have hs:=SS.start g
 refine go Tryz.func92 [(0,qv q)] rfl ?_
 refine cSL (lA 1 56 (qc q) hs (fun b1 w2 h3 hs=>?_))
 refine lA 2 74 ([.bool false,.slice none 0 0,.slice none 0 0]) hs (fun b4 w5 h6 hs=>?_)
 refine lN (CG.seq (cR 7 [] mixed hs al_nil ?_))
 refine eO 0 3 [(1,0,5)] (qv q) hs ?_
 refine eO 3 6 [(1,0,5)] (qv q) hs ?_
 refine eC 1 4 hs (fun _ _ hs=>fNum q _ _ hs.g) ?_
 rintro _ _ _ w7 h8 hs rfl
 refine eC 2 5 hs (fun _ _ hs=>hOutInt q.num hq.1 _ _ hs.g) ?_
 rintro _ _ _ w13 h14 hs ⟨A9,c10,rfl,hc11,hA12⟩
 replace hs:=(hs.a_SlO hA12)
 refine eC 4 7 hs (fun _ _ hs=>fDen q hq _ _ hs.g) ?_
 rintro _ _ _ w15 h16 hs rfl
 refine eC 5 8 hs (fun _ _ hs=>hOutNat q.den (by first|exact hq.2|omega) _ _ hs.g) ?_
 rintro _ _ _ w21 h22 hs ⟨A17,c18,rfl,hc19,hA20⟩
 replace hs:=(hs.a_SlO hA20)
 refine eV 6 9 (.agg #[.bool (ineg q.num),.slice A9 ((lim (iabs q.num)).length) c10,.slice A17 ((lim q.den).length) c18]) ?_
 refine eD0 hs (fun w23 h24 hs=>?_)
 refine tP 7 0 0 ([.bool (ineg q.num),.slice A9 ((lim (iabs q.num)).length) c10,.slice A17 ((lim q.den).length) c18]) hs (fun w25 hs=>?_)
 exact tN (CG.ret (hs.ret [(0,0,3)] (.agg #[.bool (ineg q.num),.slice A9 ((lim (iabs q.num)).length) c10,.slice A17 ((lim q.den).length) c18]) (⟨_,_,_,_,rfl,hc11,hc19,(hs.f.2.1),(hs.f.1)⟩)))
def sameQ (a b:Rat):Bool:=decide (a=b)
theorem sameQ_t {a b:Rat}(h1:cmpN (iabs a.num) (iabs b.num)=0)(h2:ineg a.num=ineg b.num)(h3:cmpN a.den b.den=0):true=sameQ a b:=by
  have e1:iabs a.num=iabs b.num:=by unfold cmpN at h1;split at h1;omega;split at h1;omega;omega
  have e3:a.den=b.den:=by unfold cmpN at h3;split at h3;omega;split at h3;omega;omega
  have e2:a.num=b.num:=by rw[←sgn_self a.num,←sgn_self b.num,e1,h2]
  symm
  exact decide_eq_true (Rat.ext e2 e3)
theorem cmpN_self (a:Nat):cmpN a a=0:=by simp[cmpN]
theorem sameQ_f {a b:Rat}(h:cmpN (iabs a.num) (iabs b.num)≠0∨ineg a.num≠ineg b.num∨cmpN a.den b.den≠0):false=sameQ a b:=by
  symm
  refine decide_eq_false ?_
  rintro rfl
  rcases h with h|h|h
  · exact h (cmpN_self _)
  · exact h rfl
  · exact h (cmpN_self _)
theorem hSame (q r:Rat)(hq:LQ 100000000 q)(hr:LQ 100000000 r)(A1:Option Addr)(c1:Nat)(D1:Option Addr)(d1:Nat)(hc1:(lim (iabs r.num)).length≤c1)(hd1:(lim r.den).length≤d1)(w:World)(h:Hp)(g:G w h)(hA1:SlO 1 u32c 0 h A1 (lim (iabs r.num)))(hD1:SlO 1 u32c 0 h D1 (lim r.den)) :
    Calls Tryz.prog 48 #[qv q,.agg #[.bool (ineg r.num),.slice A1 ((lim (iabs r.num)).length) c1,.slice D1 ((lim r.den).length) d1]] w (Ret w h fun v _=>v=.bool (sameQ q r)):=by
 have hs:=SS.start g
 replace hs:=((hs.a_SlO hA1).a_SlO hD1)
 have hpd:0<(lim r.den).length:=lim_pos.2 r.den_pos
 have hq1:=LQ.ln hq
 have hq2:=LQ.ld hq
 have hr1:=LQ.ln hr
 have hr2:=LQ.ld hr
 refine go Tryz.func48 [(0,qv q),(1,.agg #[.bool (ineg r.num),.slice A1 ((lim (iabs r.num)).length) c1,.slice D1 ((lim r.den).length) d1])] rfl ?_
 refine cSL (lA 2 56 (qc q) hs (fun b1 w2 h3 hs=>?_))
 refine lA 3 74 ([.bool (ineg r.num),.slice A1 ((lim (iabs r.num)).length) c1,.slice D1 ((lim r.den).length) d1]) hs (fun b4 w5 h6 hs=>?_)
 refine lL hs [.v 4 (.bool false)] (lNS (lL hs [.o 6 (qv q) 1 0 5] (lC 7 hs (hOut q hq _ _ hs.g) ?_)))
 rintro _ w15 h16 hs ⟨A7,c8,A11,c12,rfl,hc9,hc13,hA10,hA14⟩
 replace hs:=((hs.a_SlO hA10).a_SlO hA14)
 refine lA 5 74 ([.bool false,.slice none 0 0,.slice none 0 0]) hs (fun b17 w18 h19 hs=>?_)
 refine lP 0 0 ([.bool (ineg q.num),.slice A7 ((lim (iabs q.num)).length) c8,.slice A11 ((lim q.den).length) c12]) hs (fun w20 hs=>?_)
 refine lN (CG.seq (cSL (lL hs [.v 8 (.pointer (some ⟨b4,2,none⟩)),.o 9 (.slice D1 ((lim r.den).length) d1) 1 2 1,.v 10 (.int .i64 ((lim r.den).length:Nat))] ?_)))
 have hb21:((((lim r.den).length:Nat):Int) == (0:Int))=false:=(by simp;exact fun h=>Nat.lt_irrefl 0 (by rw[h] at hpd;exact hpd))
 have phb21:=neOfBeq hb21
 refine lB 11 hb21 ?_
 refine lN (cIF (CG.skipN (cSL (lL hs [.v 13 (.pointer (some ⟨b17,0,none⟩)),.v 14 (.pointer (some ⟨b17,1,none⟩)),.o 15 (.slice A7 ((lim (iabs q.num)).length) c8) 0 1 1,.v 16 (.pointer (some ⟨b4,0,none⟩)),.v 17 (.pointer (some ⟨b4,1,none⟩)),.o 18 (.slice A1 ((lim (iabs r.num)).length) c1) 1 1 1] (lC 19 hs (rNatCmp (iabs q.num) A7 c8 hc9 (iabs r.num) A1 c1 hc1 oM oM _ _ hs.g (hs.f.2.1) (hs.f.2.2.2.1)) ?_)))))
 rintro _ w22 h23 hs rfl
 cases hb24:((cmpN (iabs q.num) (iabs r.num):Int) == (0:Int))
 ·
  have phb24:=neOfBeq hb24
  refine lB 20 hb24 ?_
  refine lL hs [.m 21 20] (lG 22 ?_)
  refine lG 23 ?_
  refine lG 24 ?_
  refine lG 25 ?_
  refine lG 26 ?_
  refine lG 27 ?_
  refine lG 28 ?_
  refine lL hs [.v 29 (.bool false),.m 30 29] (lG 31 ?_)
  refine lG 32 ?_
  refine lG 33 ?_
  refine lG 34 ?_
  refine lG 35 ?_
  refine lG 36 ?_
  exact lL hs [.v 37 (.bool false),.m 4 37] (lN (CG.ret (hs.ret [] (.bool false) (congrArg Value.bool (sameQ_f (by first|(left;assumption)|(right;right;assumption)|(right;left;exact beq_eq_false_iff_ne.1 ‹_›)))))))
 have phb24:=eq_of_beq hb24
 refine lB 20 hb24 ?_
 refine lL hs [.m 21 20,.v 22 (.pointer (some ⟨b17,0,none⟩)),.v 23 (.pointer (some ⟨b17,0,none⟩)),.o 24 (.bool (ineg q.num)) 0 0 1,.v 25 (.pointer (some ⟨b4,0,none⟩)),.v 26 (.pointer (some ⟨b4,0,none⟩)),.o 27 (.bool (ineg r.num)) 1 0 1] ?_
 cases hb25:((ineg q.num) == (ineg r.num))
 ·
  refine lB 28 hb25 ?_
  refine lL hs [.v 29 (.bool false),.m 30 29] (lG 31 ?_)
  refine lG 32 ?_
  refine lG 33 ?_
  refine lG 34 ?_
  refine lG 35 ?_
  refine lG 36 ?_
  exact lL hs [.v 37 (.bool false),.m 4 37] (lN (CG.ret (hs.ret [] (.bool false) (congrArg Value.bool (sameQ_f (by first|(left;assumption)|(right;right;assumption)|(right;left;exact beq_eq_false_iff_ne.1 ‹_›)))))))
 refine lB 28 hb25 ?_
 refine lL hs [.v 29 (.bool true),.m 30 29,.v 31 (.pointer (some ⟨b17,2,none⟩)),.o 32 (.slice A11 ((lim q.den).length) c12) 0 2 1,.v 33 (.pointer (some ⟨b4,2,none⟩)),.o 34 (.slice D1 ((lim r.den).length) d1) 1 2 1] (lC 35 hs (rNatCmp q.den A11 c12 hc13 r.den D1 d1 hd1 oM oM _ _ hs.g (hs.f.1) (hs.f.2.2.1)) ?_)
 rintro _ w26 h27 hs rfl
 cases hb28:((cmpN q.den r.den:Int) == (0:Int))
 ·
  have phb28:=neOfBeq hb28
  refine lB 36 hb28 ?_
  exact lL hs [.v 37 (.bool false),.m 4 37] (lN (CG.ret (hs.ret [] (.bool false) (congrArg Value.bool (sameQ_f (by first|(left;assumption)|(right;right;assumption)|(right;left;exact beq_eq_false_iff_ne.1 ‹_›)))))))
 have phb28:=eq_of_beq hb28
 refine lB 36 hb28 ?_
 exact lL hs [.v 37 (.bool true),.m 4 37] (lN (CG.ret (hs.ret [] (.bool true) (congrArg Value.bool (sameQ_t aM (eq_of_beq ‹_›) aM)))))
theorem LQ.mkR {n d:Int}(hd:d≠0)(h0 : -9223372036854775808≤n)(h1:n≤9223372036854775807)(h2 : -9223372036854775808≤d)(h3:d≤9223372036854775807):LQ 1 (mkR n d):=by
  unfold Go.Proofs.YtnbjahmpennmkaaGreatDoor.mkR
  have hp:0<iabs d:=by unfold iabs;omega
  obtain ⟨p1,p2,p3,p4⟩:=mkRat_parts (if d<0 then -n else n) (iabs d) hp
  refine ⟨?_,?_⟩
  · rw[p1];refine wds_len_lit.2 (Nat.lt_of_le_of_lt (iabs_div_le _ _ p3) ?_)
    unfold iabs;split<;>omega
  · rw[p2];exact wds_len_lit.2 (Nat.lt_of_le_of_lt (Nat.div_le_self _ _) (by unfold iabs;omega))
theorem hIs (q:Rat)(z e:Int)(hq:LQ 100000000 q)(he:e≠0)(hz0 : -9223372036854775808≤z)(hz1:z<9223372036854775808)(he0 : -4294967296<e)(he1:e<4294967296)(w:World)(h:Hp)(g:G w h) :
    Calls Tryz.prog 47 #[qv q,.int .i64 z,.int .i64 e] w (Ret w h fun v _=>v=.bool (sameQ q (mkR z e))):=by
 have hs:=SS.start g
 have hb:LQ 100000000 (mkR z e):=(LQ.mkR he hz0 oM oM oM).mono oM
 refine go Tryz.func47 [(0,qv q),(1,.int .i64 z),(2,.int .i64 e)] rfl ?_
 refine cSL (lA 3 56 (qc q) hs (fun b1 w2 h3 hs=>?_))
 refine lL hs [.v 6 (.bool false)] (lN (CG.seq (cR 5 [] mixed hs al_nil ?_)))
 refine eO 0 7 [(0,0,5)] (qv q) hs ?_
 refine eV 1 8 (.int .i64 z) ?_
 refine eV 2 9 (.int .i64 e) ?_
 refine eC 3 10 hs (fun _ _ hs=>rOverS z e oM oM oM oM oM _ _ hs.g) ?_
 rintro _ _ _ w12 h13 hs ⟨A4,c5,A8,c9,rfl,hc6,hc10,hA7,hA11⟩
 replace hs:=((hs.a_SlO hA7).a_SlO hA11)
 refine eC 4 11 hs (fun _ _ hs=>hSame q (mkR z e) hq hb A4 c5 A8 c9 hc6 hc10 _ _ hs.g (hs.f.2.1) (hs.f.1)) ?_
 rintro _ _ _ w14 h15 hs rfl
 refine eD0 hs (fun w16 h17 hs=>?_)
 refine tV 5 6 (.bool (sameQ q (mkR z e))) ?_
 exact tN (CG.ret (hs.ret [] (.bool (sameQ q (mkR z e))) rfl))
def pick (n:Int)(m:Nat):Nat:=(n%(m:Int)).toNat
theorem pick_lt (n:Int)(m:Nat)(h:0<m):pick n m<m:=by
  unfold pick
  have h1:=Int.emod_nonneg n (show (m:Int)≠0 by omega)
  have h2:=Int.emod_lt_of_pos n (show (0:Int)<m by omega)
  omega
theorem pick_int (n:Int)(m:Nat)(h:0<m):((pick n m:Nat):Int)=n%(m:Int):=by
  unfold pick
  have h1:=Int.emod_nonneg n (show (m:Int)≠0 by omega)
  omega
theorem tmod_neg (n:Int)(m:Nat)(hm:0<m)(hn:n<0):(n%(m:Int)=0∧n.tmod (m:Int)=0)∨(0<n%(m:Int)∧n.tmod (m:Int)=n%(m:Int)-m):=by
  have b1:=Int.emod_nonneg n (show (m:Int)≠0 by omega)
  rw[Int.tmod_eq_emod]
  by_cases h:(m:Int)∣n
  · left
    rw[if_pos (.inr h)]
    have:=Int.emod_eq_zero_of_dvd h
    exact ⟨this,by omega⟩
  · right
    have h2:¬(n%(m:Int)=0):=fun h'=>h (Int.dvd_of_emod_eq_zero h')
    rw[if_neg (by intro h';rcases h' with h'|h';omega;exact h h')]
    refine ⟨by omega,by simp⟩
def dDen (k:Nat):Nat:=match k with|0=>1|1=>1|2=>1|3=>2|4=>3|_=>4
theorem dDen_pos (k:Nat):0<dDen k:=by unfold dDen;split<;>omega
theorem dDen_le (k:Nat):dDen k≤4:=by unfold dDen;split<;>omega
def handRq (n:Int):Rat:=mkR ((pick n 41:Int)-20) (dDen (pick (n.tdiv 41) 6):Nat)
def smallq (n:Int):Rat:=mkR ((pick n 9:Int)-4) (((pick (n.tdiv 9) 2:Nat):Int)+1)
theorem tdiv_bd (n:Int)(m:Int)(hm:1<m)(hn0 : -9223372036854775808≤n)(hn1:n≤9223372036854775807) : -9223372036854775808≤n.tdiv m∧n.tdiv m≤9223372036854775807:=by
  have h1:(n.tdiv m).natAbs≤n.natAbs/2:=by
    rw[Int.natAbs_tdiv];exact Nat.div_le_div_left oM oM
  omega
theorem pick_neg {n:Int}{m:Nat}(hm:0<m)(h:n.tmod (m:Int)<0):n.tmod (m:Int)+m=((pick n m:Nat):Int):=by
  rw[pick_int n m hm]
  rcases Int.lt_or_le n 0 with hn|hn
  · rcases tmod_neg n m hm hn with ⟨h1,h2⟩|⟨h1,h2⟩<;>omega
  · rw[Int.tmod_eq_emod_of_nonneg hn] at h
    have:=Int.emod_nonneg n (show (m:Int)≠0 by omega)
    omega
theorem pick_nneg {n:Int}{m:Nat}(hm:0<m)(h:¬n.tmod (m:Int)<0):n.tmod (m:Int)=((pick n m:Nat):Int):=by
  rw[pick_int n m hm]
  rcases Int.lt_or_le n 0 with hn|hn
  · rcases tmod_neg n m hm hn with ⟨h1,h2⟩|⟨h1,h2⟩
    · omega
    · have:=Int.emod_lt_of_pos n (show (0:Int)<m by omega)
      omega
  · rw[Int.tmod_eq_emod_of_nonneg hn]
theorem tmod_bd (n:Int){m:Nat}(hm:0<m) : -(m:Int)<n.tmod (m:Int)∧n.tmod (m:Int)<m:=by
  have h1:=Int.tmod_lt_of_pos n (show (0:Int)<m by omega)
  have h2:=Int.lt_tmod_of_pos n (show (0:Int)<m by omega)
  exact ⟨h2,h1⟩
theorem hPick (n:Int)(m:Nat)(hm:0<m)(hm2:m<1000000)(w:World)(h:Hp)(g:G w h) :
    Calls Tryz.prog 6 #[.int .i64 n,.int .i64 (m:Nat)] w (Ret w h fun v _=>v=.int .i64 (pick n m:Nat)):=by
 have hs:=SS.start g
 obtain ⟨b1,b2⟩:=tmod_bd n hm
 refine go Tryz.func6 [(0,.int .i64 n),(1,.int .i64 (m:Nat))] rfl ?_
 refine cSL (lL hs [.v 4 (.int .i64 0)] (lNS (lL hs [.m 5 0,.m 6 1] (lV 7 (.int .i64 (n.tmod (m:Nat))) ?_ (hr:=opRem (t:=3) (u:=3) (x:=.tmp 5) (y:=.tmp 6) (k:=.i64) (a:=n) (b:=(m:Nat)) kR kR kR oM _)))))
 refine lL hs [.m 0 7] (lN (CG.seq (cSL (lL hs [.m 8 0] ?_))))
 cases hb1:(decide ((n.tmod (m:Nat):Int)<(0:Int)))
 ·
  have phb1:=oF hb1
  refine lB 9 hb1 ?_
  exact lN (cIF (CG.skipN (cSL (lL hs [.m 13 0,.m 4 13] (lN (CG.ret (hs.ret [] (.int .i64 (n.tmod (m:Nat))) (congrArg (Value.int .i64) (pick_nneg hm aM)))))))))
 have phb1:=oT hb1
 refine lB 9 hb1 ?_
 refine lN (cIT (CG.listed (lL hs [.m 10 0,.m 11 1] (lI 12 ((n.tmod (m:Nat))+(m:Nat)) ?_))))
 exact lL hs [.m 0 12] (lNS (lL hs [.m 13 0,.m 4 13] (lN (CG.ret (hs.ret [] (.int .i64 ((n.tmod (m:Nat))+(m:Nat))) (congrArg (Value.int .i64) (pick_neg hm aM)))))))
theorem index6_0 (w:World):(Instr.index 118 (.agg #[.int .i64 1,.int .i64 1,.int .i64 1,.int .i64 2,.int .i64 3,.int .i64 4]) (.int .i64 0)).run Tryz.prog w=.ok (.int .i64 1) w:=by kernel_rfl
theorem index6_1 (w:World):(Instr.index 118 (.agg #[.int .i64 1,.int .i64 1,.int .i64 1,.int .i64 2,.int .i64 3,.int .i64 4]) (.int .i64 1)).run Tryz.prog w=.ok (.int .i64 1) w:=by kernel_rfl
theorem index6_2 (w:World):(Instr.index 118 (.agg #[.int .i64 1,.int .i64 1,.int .i64 1,.int .i64 2,.int .i64 3,.int .i64 4]) (.int .i64 2)).run Tryz.prog w=.ok (.int .i64 1) w:=by kernel_rfl
theorem index6_3 (w:World):(Instr.index 118 (.agg #[.int .i64 1,.int .i64 1,.int .i64 1,.int .i64 2,.int .i64 3,.int .i64 4]) (.int .i64 3)).run Tryz.prog w=.ok (.int .i64 2) w:=by kernel_rfl
theorem index6_4 (w:World):(Instr.index 118 (.agg #[.int .i64 1,.int .i64 1,.int .i64 1,.int .i64 2,.int .i64 3,.int .i64 4]) (.int .i64 4)).run Tryz.prog w=.ok (.int .i64 3) w:=by kernel_rfl
theorem index6_5 (w:World):(Instr.index 118 (.agg #[.int .i64 1,.int .i64 1,.int .i64 1,.int .i64 2,.int .i64 3,.int .i64 4]) (.int .i64 5)).run Tryz.prog w=.ok (.int .i64 4) w:=by kernel_rfl
theorem index6 (k:Nat)(h:k<6)(w:World):(Instr.index 118 (.agg #[.int .i64 1,.int .i64 1,.int .i64 1,.int .i64 2,.int .i64 3,.int .i64 4]) (.int .i64 (k:Int))).run Tryz.prog w=.ok (.int .i64 ((dDen k:Nat):Int)) w:=by
  have:k=0∨k=1∨k=2∨k=3∨k=4∨k=5:=by omega
  rcases this with rfl|rfl|rfl|rfl|rfl|rfl
  · exact index6_0 w
  · exact index6_1 w
  · exact index6_2 w
  · exact index6_3 w
  · exact index6_4 w
  · exact index6_5 w
theorem idx6 {Γ:Env}{o:Oper}{x y:Operand}(k:Nat)(h:k<6)(ho:o.op=.index 118 x y)(hx:ev Γ x=.agg #[.int .i64 1,.int .i64 1,.int .i64 1,.int .i64 2,.int .i64 3,.int .i64 4])(hy:ev Γ y=.int .i64 (k:Nat))(w:World) :
    (execOp (ev Γ) o).run Tryz.prog w=.ok (.value (.int .i64 (dDen k:Nat))) w:=by
  unfold execOp;simp only[ho];rw[hx,hy,Sem.run_bind,index6 k h w];rfl
theorem hR (n:Int)(h0 : -9223372036854775808≤n)(h1:n≤9223372036854775807)(w:World)(h:Hp)(g:G w h) :
    Calls Tryz.prog 25 #[.int .i64 n] w (Ret w h fun v h1=>RQ h1 v (handRq n)):=by
 have hs:=SS.start g
 obtain ⟨t0,t1⟩:=tdiv_bd n 41 oM h0 h1
 have l1:=pick_lt n 41 oM
 have l2:=pick_lt (n.tdiv 41) 6 oM
 have p1:=dDen_pos (pick (n.tdiv 41) 6)
 have p2:=dDen_le (pick (n.tdiv 41) 6)
 refine go Tryz.func25 [(0,.int .i64 n)] rfl ?_
 refine cSL (lA 2 74 ([.bool false,.slice none 0 0,.slice none 0 0]) hs (fun b1 w2 h3 hs=>?_))
 refine lNS (lL hs [.m 3 0] (lC 4 hs (hPick (n) 41 oM oM _ _ hs.g) ?_))
 rintro _ w5 h6 hs rfl
 have lp4:=pick_lt (n) 41 oM
 refine lI 5 ((pick (n) 41:Nat)-20) ?_
 refine lL hs [.v 6 (.agg #[.int .i64 1,.int .i64 1,.int .i64 1,.int .i64 2,.int .i64 3,.int .i64 4]),.m 7 0] (lV 8 (.int .i64 (n.tdiv 41)) ?_ (hr:=rint (n:=IntKind.wrap .i64 (n.tdiv 41)) kR (fitI64 oM oM)))
 refine lC 9 hs (hPick (n.tdiv 41) 6 oM oM _ _ hs.g) ?_
 rintro _ w8 h9 hs rfl
 have lp7:=pick_lt (n.tdiv 41) 6 oM
 refine lV 10 (.int .i64 (dDen (pick (n.tdiv 41) 6):Nat)) ?_ (hr:=idx6 (x:=.tmp 6) (y:=.tmp 9) (pick (n.tdiv 41) 6) l2 kR kR kR _)
 refine lC 11 hs (rOverS ((pick (n) 41:Nat)-20) (dDen (pick (n.tdiv 41) 6):Nat) oM oM oM oM oM _ _ hs.g) ?_
 rintro _ w18 h19 hs ⟨A10,c11,A14,c15,rfl,hc12,hc16,hA13,hA17⟩
 replace hs:=((hs.a_SlO hA13).a_SlO hA17)
 refine lP 0 0 ([.bool (ineg (handRq n).num),.slice A10 ((lim (iabs (handRq n).num)).length) c11,.slice A14 ((lim (handRq n).den).length) c15]) hs (fun w20 hs=>?_)
 exact lN (CG.ret (hs.ret [(0,0,3)] (.agg #[.bool (ineg (handRq n).num),.slice A10 ((lim (iabs (handRq n).num)).length) c11,.slice A14 ((lim (handRq n).den).length) c15]) (⟨_,_,_,_,rfl,hc12,hc16,(hs.f.2.1),(hs.f.1)⟩)))
abbrev RT:=Bool × Value × Value
def rqc (t:RT):List Value:=[.bool t.1,t.2.1,t.2.2]
def rqd:RT:=(false,undef,undef)
def rtv (t:RT):Value:=.agg #[.bool t.1,t.2.1,t.2.2]
structure RTs (h:Hp) (ts:List RT) (qs:List Rat):Prop where
  len:ts.length=qs.length
  at_:∀ i,i<qs.length→RQ h (rtv (ts.getD i rqd)) (qs.getD i 0)
theorem RTs.gw {h h':Hp}{ts:List RT}{qs:List Rat}(r:RTs h ts qs)(u:Gw h h'):RTs h' ts qs:=⟨r.len,fun i hi=>(r.at_ i hi).gw u⟩
theorem RTs.nil {h:Hp}:RTs h [] []:=⟨rfl,fun i hi=>by simp at hi⟩
theorem getD_snoc {α:Type}(l:List α)(x d:α)(i:Nat):(l++[x]).getD i d=if i<l.length then l.getD i d else if i=l.length then x else d:=by
  split
  · rename_i h;simp[List.getElem?_append_left h]
  · rename_i h
    split
    · rename_i h2;subst h2;simp
    · rename_i h2;simp[List.getElem?_eq_none (show (l++[x]).length≤i by simp;omega)]
theorem RTs.snoc {h:Hp}{ts:List RT}{qs:List Rat}(r:RTs h ts qs){t:RT}{q:Rat}(hq:RQ h (rtv t) q):RTs h (ts++[t]) (qs++[q]):=by
  refine ⟨by simp[r.len],fun i hi=>?_⟩
  rw[getD_snoc,getD_snoc,r.len]
  split
  · rename_i h1;exact r.at_ i h1
  · rename_i h1
    have:i=qs.length:=by simp at hi;omega
    rw[if_pos this,if_pos this];exact hq
theorem take_snoc' {α:Type}{l:List α}{k:Nat}(d:α)(h:k<l.length):l.take (k+1)=l.take k++[l.getD k d]:=by
  rw[List.take_add_one];simp[h]
def vc (v:Value):List Value:=[v]
def rowq (zs:List Int):Nat→List Rat
  | 0=>[]
  | k+1=>rowq zs k++[if k<zs.length then handRq (zs.getD k 0) else 0]
theorem rowq_len (zs:List Int)(k:Nat):(rowq zs k).length=k:=by induction k with|zero=>rfl|succ k ih=>simp[rowq,ih]
def I64s (zs:List Int):Prop:=∀ k,-9223372036854775808≤zs.getD k 0∧zs.getD k 0≤9223372036854775807
structure RVs (h:Hp) (vs:List Value) (qss:List (List Rat)):Prop where
  len:vs.length=qss.length
  at_:∀ i,i<qss.length→∃ A cap,∃ ts:List RT,vs.getD i undef=.slice A ts.length cap∧ts.length≤cap∧SlO 3 rqc rqd h A ts∧RTs h ts (qss.getD i [])
theorem RVs.gw {h h':Hp}{vs:List Value}{qss:List (List Rat)}(r:RVs h vs qss)(u:Gw h h'):RVs h' vs qss:=⟨r.len,fun i hi=>by
  obtain ⟨A,cap,ts,h1,h2,h3,h4⟩:=r.at_ i hi
  exact ⟨A,cap,ts,h1,h2,h3.gw u,h4.gw u⟩⟩
structure QVs (h:Hp) (vs:List Value) (qss:List (List Rat)):Prop where
  len:vs.length=qss.length
  at_:∀ i,i<qss.length→SlV 5 qc 0 h (vs.getD i undef) (qss.getD i [])
theorem QVs.gw {h h':Hp}{vs:List Value}{qss:List (List Rat)}(r:QVs h vs qss)(u:Gw h h'):QVs h' vs qss:=⟨r.len,fun i hi=>(r.at_ i hi).gw u⟩
theorem QVs.nil {h:Hp}:QVs h [] []:=⟨rfl,fun i hi=>by simp at hi⟩
theorem QVs.snoc {h:Hp}{vs:List Value}{qss:List (List Rat)}(r:QVs h vs qss){v:Value}{l:List Rat}(hv:SlV 5 qc 0 h v l):QVs h (vs++[v]) (qss++[l]):=by
  refine ⟨by simp[r.len],fun i hi=>?_⟩
  rw[getD_snoc,getD_snoc,r.len]
  split
  · rename_i h1;exact r.at_ i h1
  · rename_i h1
    have:i=qss.length:=by simp at hi;omega
    rw[if_pos this,if_pos this];exact hv
theorem RVs.nil {h:Hp}:RVs h [] []:=⟨rfl,fun i hi=>by simp at hi⟩
theorem RVs.snoc {h:Hp}{vs:List Value}{qss:List (List Rat)}(r:RVs h vs qss){v:Value}{l:List Rat}(hv:∃ A cap,∃ ts:List RT,v=.slice A ts.length cap∧ts.length≤cap∧SlO 3 rqc rqd h A ts∧RTs h ts l):RVs h (vs++[v]) (qss++[l]):=by
  refine ⟨by simp[r.len],fun i hi=>?_⟩
  rw[getD_snoc,getD_snoc,r.len]
  split
  · rename_i h1;exact r.at_ i h1
  · rename_i h1
    have:i=qss.length:=by simp at hi;omega
    rw[if_pos this,if_pos this];exact hv
theorem rowq_step {zs:List Int}{k:Nat}{q:Rat}(hq:(if k<zs.length then handRq (zs.getD k 0) else 0)=q){ts':List RT}{h':Hp}(hh:RTs h' ts' (rowq zs k++[q])):RTs h' ts' (rowq zs (k+1)):=by
  show RTs h' ts' (rowq zs k++[_]);rw[hq];exact hh
theorem rqOk {h:Hp}{A D:Option Addr}{c d:Nat}{q:Rat}(h1:(lim (iabs q.num)).length≤c)(h2:(lim q.den).length≤d)(h3:SlO 1 u32c 0 h A (lim (iabs q.num)))(h4:SlO 1 u32c 0 h D (lim q.den)):RQ h (rtv ((ineg q.num,.slice A (lim (iabs q.num)).length c,.slice D (lim q.den).length d):RT)) q:=⟨_,_,_,_,rfl,h1,h2,h3,h4⟩
theorem hInRow (A:Option Addr)(cap:Nat)(ts:List RT)(qs:List Rat)(hl:qs.length≤1000000)(hf:∀ i,i<qs.length→LQ 100000000 (qs.getD i 0))(w:World)(h:Hp)(g:G w h)(hA:SlO 3 rqc rqd h A ts)(hT:RTs h ts qs)(tb:Tab h) :
    Calls Tryz.prog 10 #[.slice A ts.length cap] w (Ret w h fun v h1=>SlV 5 qc 0 h1 v qs):=by
 have hs:=SS.start g
 replace hs:=(((hs.a_SlO hA).add (K:=fun h_=>RTs h_ ts qs) hT).add (K:=fun h_=>Tab h_) tb)
 have hlen:=(hs.f.2.1).len
 refine go Tryz.func10 [(0,.slice A ts.length cap)] rfl ?_
 refine cSL (lL hs [.v 2 (.slice none 0 0)] (lNS (lL hs [.v 3 (.slice none 0 0)] (lN (CG.seq (cSL (lL hs [.v 4 (.int .i64 0)] (lN (CG.block ?_)))))))))
 replace hs:=hs.nil 56 5
 refine cTo [(0,.slice A ts.length cap),(2,.slice none 0 0),(4,.int .i64 0),(3,.slice none 0 0)] ?_
 refine CG.loop (fun μ_ Γ w_=>∃ (k:Nat) (sA:Option Addr) (sc:Nat) (ql:List Rat) (h_:Hp),μ_=qs.length-k∧Γ=[(0,.slice A ts.length cap),(2,.slice none 0 0),(4,.int .i64 (k:Nat)),(3,.slice sA ((ql).length) sc)]∧SS w h w_ h_ [] [⟨56,5,sA,sc,(ql).length,(ql).flatMap qc⟩] [fun h_=>Tab h_,fun h_=>RTs h_ ts qs,fun h_=>SlO 3 rqc rqd h_ A ts]∧(k≤qs.length)∧(ql=qs.take k)) _ ⟨0,none,0,[],h,rfl,rfl,hs.to _ _,Nat.zero_le _,rfl⟩ ?_
 rintro _ _ w1 ⟨k,sA,sc,ql,h2,hm3,rfl,hs,hk,hql⟩
 have htk:ql.length=k:=by rw[hql];simp;omega
 refine CG.seq (cSL (lL hs [.m 5 4,.m 6 0,.v 7 (.int .i64 (ts.length:Nat))] ?_))
 cases hb4:(decide (((k:Nat):Int)<((ts.length:Nat):Int)))
 ·
  have phb4:=oF hb4
  refine lB 8 hb4 ?_
  refine lN (cIF (CG.exit ?_))
  show CG _ _ _ _ _ _ _ _
  refine cSL (lL hs [.m 19 3,.m 2 19] (lN (CG.ret ?_)))
  have hkq:ql=qs:=by rw[hql];exact List.take_of_length_le oM
  subst hkq
  obtain ⟨h5,hs,hc6⟩:=hs.pubr 0 (A:=sA) (c:=sc) (l:=ql) (f:=qc) (ty:=56) (sz:=5) 0 (fun _=>rfl)
  exact hs.ret [] (.slice sA ((ql).length) sc) (⟨_,_,rfl,hc6,(hs.f.1)⟩)
 have phb4:=oT hb4
 refine lB 8 hb4 ?_
 refine lN (cIT (CG.skipN (CG.seq (CG.block (CG.listed (lL hs [.m 11 3,.m 12 0,.m 13 4] (lX 14 A ts.length cap 3 (k:Nat) k ((hs.f.2.2.1).ok oM) ?_)))))))
 refine lH 15 (.agg #[.bool ((ts.getD k rqd).1),(ts.getD k rqd).2.1,(ts.getD k rqd).2.2]) hs ((hs.f.2.2.1).el k oM) ?_
 refine lC 16 hs (hInV _ (qs.getD k 0) (hf k oM) _ _ hs.g ((hs.f.2.1).at_ k oM) (hs.f.1)) ?_
 rintro _ w8 h9 hs rfl
 refine lR 17 56 1 (qc (qs.getD k 0)) hs (fun b10 w11 h12 hs=>?_)
 refine lY 18 0 56 5 sc sA ql qc (qs.getD k 0) 56 b10 (.agg #[.bool false,.int .u64 0,.string ⟨#[]⟩,.int .u64 0,.string ⟨#[]⟩]) hs (hs.f.1) (fun A14 c15 w16 h17 hs=>?_)
 refine lL hs [.m 3 18] (lN (CG.listed (lL hs [.m 9 4] (lIn 10 ((k:Nat)+1) (k+1) ?_))))
 refine lL hs [.m 4 10] (lD ?_)
 intro a_ ka
 have q19:(k+1)≤qs.length:=by omega
 have q20:(ql++[qs.getD k 0])=qs.take (k+1):=by rw[take_snoc' 0 oM,hql]
 replace hs:=hs.tl
 refine ⟨_,_,?_,⟨k+1,A14,c15,ql++[qs.getD k 0],h17,rfl,rfl,hs.to _ _,q19,q20⟩,ka.to [(0,.slice A ts.length cap),(2,.slice none 0 0),(4,.int .i64 ((k+1):Nat)),(3,.slice A14 (((ql++[qs.getD k 0])).length) c15)] kR⟩
 omega
theorem hRow (A:Option Addr)(cap:Nat)(zs:List Int)(n:Nat)(hn:n≤1000000)(hl:zs.length≤9223372036854775807)(hz:I64s zs)(w:World)(h:Hp)(g:G w h)(hA:SlO 1 i64c 0 h A zs) :
    Calls Tryz.prog 7 #[.slice A zs.length cap,.int .i64 (n:Nat)] w (Ret w h fun v h1=>∃ A c,∃ ts:List RT,v=.slice A ts.length c∧ts.length≤c∧SlO 3 rqc rqd h1 A ts∧RTs h1 ts (rowq zs n)):=by
 have hs:=SS.start g
 replace hs:=(hs.a_SlO hA)
 refine go Tryz.func7 [(0,.slice A zs.length cap),(1,.int .i64 (n:Nat))] rfl ?_
 refine cSL (lL hs [.v 4 (.slice none 0 0)] (lNS (lL hs [.v 5 (.slice none 0 0)] (lN (CG.seq (cSL (lL hs [.v 6 (.int .i64 0)] (lN (CG.block ?_)))))))))
 replace hs:=hs.nil 74 3
 refine cTo [(0,.slice A zs.length cap),(1,.int .i64 (n:Nat)),(4,.slice none 0 0),(6,.int .i64 0),(5,.slice none 0 0)] ?_
 replace hs:=hs.add (K:=fun h_=>RTs h_ ([]) (rowq zs 0)) (RTs.nil)
 refine CG.loop (fun μ_ Γ w_=>∃ (k:Nat) (sA:Option Addr) (sc:Nat) (ts:List RT) (h_:Hp),μ_=n-k∧Γ=[(0,.slice A zs.length cap),(1,.int .i64 (n:Nat)),(4,.slice none 0 0),(6,.int .i64 (k:Nat)),(5,.slice sA ((ts).length) sc)]∧SS w h w_ h_ [] [⟨74,3,sA,sc,(ts).length,(ts).flatMap rqc⟩] [fun h_=>RTs h_ ts (rowq zs k),fun h_=>SlO 1 i64c 0 h_ A zs]∧(k≤n)) _ ⟨0,none,0,[],h,rfl,rfl,hs.to _ _,Nat.zero_le _⟩ ?_
 rintro _ _ w1 ⟨k,sA,sc,ts,h2,hm3,rfl,hs,hk⟩
 have hlT:=(hs.f.1).len
 rw[rowq_len] at hlT
 refine CG.seq (cSL (lL hs [.m 7 6,.m 8 1] ?_))
 cases hb4:(decide (((k:Nat):Int)<((n:Nat):Int)))
 ·
  have phb4:=oF hb4
  refine lB 9 hb4 ?_
  refine lN (cIF (CG.exit ?_))
  show CG _ _ _ _ _ _ _ _
  refine cSL (lL hs [.m 28 5,.m 4 28] (lN (CG.ret ?_)))
  have hkq:k=n:=by omega
  subst hkq
  obtain ⟨h5,hs,hc6⟩:=hs.pubr 0 (A:=sA) (c:=sc) (l:=ts) (f:=rqc) (ty:=74) (sz:=3) rqd (fun _=>rfl)
  exact hs.ret [] (.slice sA ((ts).length) sc) (⟨_,_,ts,rfl,hc6,(hs.f.1),(hs.f.2.1)⟩)
 have phb4:=oT hb4
 refine lB 9 hb4 ?_
 refine lN (cIT (CG.skipN (CG.seq (CG.block (cSL (lL hs [.m 12 6,.m 13 0,.v 14 (.int .i64 (zs.length:Nat))] ?_))))))
 cases hb8:(decide (((k:Nat):Int)<((zs.length:Nat):Int)))
 ·
  have phb8:=oF hb8
  refine lB 15 hb8 ?_
  refine lN (cIF (CG.listed (lL hs [.m 24 5] (lC 25 hs (rOf 0 oM oM _ _ hs.g) ?_))))
  rintro _ w17 h18 hs ⟨A9,c10,A13,c14,rfl,hc11,hc15,hA12,hA16⟩
  replace hs:=((hs.a_SlO hA12).a_SlO hA16)
  refine lR 26 74 1 ([.bool (ineg ((0:Int):Rat).num),.slice A9 ((lim (iabs ((0:Int):Rat).num)).length) c10,.slice A13 ((lim ((0:Int):Rat).den).length) c14]) hs (fun b19 w20 h21 hs=>?_)
  refine lY 27 0 74 3 sc sA ts rqc ((ineg ((0:Int):Rat).num,.slice A9 ((lim (iabs ((0:Int):Rat).num)).length) c10,.slice A13 ((lim ((0:Int):Rat).den).length) c14):RT) 56 b19 (.agg #[.bool false,.slice none 0 0,.slice none 0 0]) hs (hs.f.1) (fun A23 c24 w25 h26 hs=>?_)
  refine lL hs [.m 5 27] (lN (CG.listed (lL hs [.m 10 6] (lIn 11 ((k:Nat)+1) (k+1) ?_))))
  refine lL hs [.m 6 11] (lD ?_)
  intro a_ ka
  have q28:RTs h26 (ts++[((ineg ((0:Int):Rat).num,.slice A9 ((lim (iabs ((0:Int):Rat).num)).length) c10,.slice A13 ((lim ((0:Int):Rat).den).length) c14):RT)]) (rowq zs (k+1)):=(rowq_step ((if_neg oM).trans (show (0:Rat)=((0:Int):Rat) from rfl)) (RTs.snoc (hs.f.2.2.2.1) (rqOk hc11 hc15 (hs.f.2.2.1) (hs.f.2.1))))
  have q29:(k+1)≤n:=by omega
  replace hs:=(hs.tl.tl.tl.tl.add (K:=fun h_=>RTs h_ (ts++[((ineg ((0:Int):Rat).num,.slice A9 ((lim (iabs ((0:Int):Rat).num)).length) c10,.slice A13 ((lim ((0:Int):Rat).den).length) c14):RT)]) (rowq zs (k+1))) q28)
  refine ⟨_,_,?_,⟨k+1,A23,c24,ts++[((ineg ((0:Int):Rat).num,.slice A9 ((lim (iabs ((0:Int):Rat).num)).length) c10,.slice A13 ((lim ((0:Int):Rat).den).length) c14):RT)],h26,rfl,rfl,hs.to _ _,q29⟩,ka.to [(0,.slice A zs.length cap),(1,.int .i64 (n:Nat)),(4,.slice none 0 0),(6,.int .i64 ((k+1):Nat)),(5,.slice A23 (((ts++[((ineg ((0:Int):Rat).num,.slice A9 ((lim (iabs ((0:Int):Rat).num)).length) c10,.slice A13 ((lim ((0:Int):Rat).den).length) c14):RT)])).length) c24)] kR⟩
  omega
 have phb8:=oT hb8
 refine lB 15 hb8 ?_
 refine lN (cIT (CG.listed (lL hs [.m 16 5,.m 17 0,.m 18 6] (lX 19 A zs.length cap 1 (k:Nat) k ((hs.f.2.1).ok oM) ?_))))
 refine lH 20 (.int .i64 (zs.getD k 0)) hs ((hs.f.2.1).el k oM) ?_
 refine lC 21 hs (hR (zs.getD k 0) (hz k).1 (hz k).2 _ _ hs.g) ?_
 rintro _ w38 h39 hs ⟨A30,c31,A34,c35,rfl,hc32,hc36,hA33,hA37⟩
 replace hs:=((hs.a_SlO hA33).a_SlO hA37)
 refine lR 22 74 1 ([.bool (ineg (handRq (zs.getD k 0)).num),.slice A30 ((lim (iabs (handRq (zs.getD k 0)).num)).length) c31,.slice A34 ((lim (handRq (zs.getD k 0)).den).length) c35]) hs (fun b40 w41 h42 hs=>?_)
 refine lY 23 0 74 3 sc sA ts rqc ((ineg (handRq (zs.getD k 0)).num,.slice A30 ((lim (iabs (handRq (zs.getD k 0)).num)).length) c31,.slice A34 ((lim (handRq (zs.getD k 0)).den).length) c35):RT) 56 b40 (.agg #[.bool false,.slice none 0 0,.slice none 0 0]) hs (hs.f.1) (fun A44 c45 w46 h47 hs=>?_)
 refine lL hs [.m 5 23] (lN (CG.listed (lL hs [.m 10 6] (lIn 11 ((k:Nat)+1) (k+1) ?_))))
 refine lL hs [.m 6 11] (lD ?_)
 intro a_ ka
 have q49:RTs h47 (ts++[((ineg (handRq (zs.getD k 0)).num,.slice A30 ((lim (iabs (handRq (zs.getD k 0)).num)).length) c31,.slice A34 ((lim (handRq (zs.getD k 0)).den).length) c35):RT)]) (rowq zs (k+1)):=(rowq_step (if_pos oM) (RTs.snoc (hs.f.2.2.2.1) (rqOk hc32 hc36 (hs.f.2.2.1) (hs.f.2.1))))
 have q50:(k+1)≤n:=by omega
 replace hs:=(hs.tl.tl.tl.tl.add (K:=fun h_=>RTs h_ (ts++[((ineg (handRq (zs.getD k 0)).num,.slice A30 ((lim (iabs (handRq (zs.getD k 0)).num)).length) c31,.slice A34 ((lim (handRq (zs.getD k 0)).den).length) c35):RT)]) (rowq zs (k+1))) q49)
 refine ⟨_,_,?_,⟨k+1,A44,c45,ts++[((ineg (handRq (zs.getD k 0)).num,.slice A30 ((lim (iabs (handRq (zs.getD k 0)).num)).length) c31,.slice A34 ((lim (handRq (zs.getD k 0)).den).length) c35):RT)],h47,rfl,rfl,hs.to _ _,q50⟩,ka.to [(0,.slice A zs.length cap),(1,.int .i64 (n:Nat)),(4,.slice none 0 0),(6,.int .i64 ((k+1):Nat)),(5,.slice A44 (((ts++[((ineg (handRq (zs.getD k 0)).num,.slice A30 ((lim (iabs (handRq (zs.getD k 0)).num)).length) c31,.slice A34 ((lim (handRq (zs.getD k 0)).den).length) c35):RT)])).length) c45)] kR⟩
 omega
theorem hInRows (A:Option Addr)(cap:Nat)(vs:List Value)(qss:List (List Rat))(hl:qss.length≤1000000)(hls:∀ i,i<qss.length→(qss.getD i []).length≤1000000)(hf:∀ i,i<qss.length→∀ j,j<(qss.getD i []).length→LQ 100000000 ((qss.getD i []).getD j 0))(w:World)(h:Hp)(g:G w h)(hA:SlO 1 vc undef h A vs)(hT:RVs h vs qss)(tb:Tab h) :
    Calls Tryz.prog 9 #[.slice A vs.length cap] w (Ret w h fun v h1=>∃ A c,∃ us:List Value,v=.slice A us.length c∧us.length≤c∧SlO 1 vc undef h1 A us∧QVs h1 us qss):=by
 have hs:=SS.start g
 replace hs:=(((hs.a_SlO hA).add (K:=fun h_=>RVs h_ vs qss) hT).add (K:=fun h_=>Tab h_) tb)
 have hlen:=(hs.f.2.1).len
 refine go Tryz.func9 [(0,.slice A vs.length cap)] rfl ?_
 refine cSL (lL hs [.v 2 (.slice none 0 0)] (lNS (lL hs [.v 3 (.slice none 0 0)] (lN (CG.seq (cSL (lL hs [.v 4 (.int .i64 0)] (lN (CG.block ?_)))))))))
 replace hs:=hs.nil 35 1
 refine cTo [(0,.slice A vs.length cap),(2,.slice none 0 0),(4,.int .i64 0),(3,.slice none 0 0)] ?_
 replace hs:=hs.add (K:=fun h_=>QVs h_ ([]) (qss.take 0)) (QVs.nil)
 refine CG.loop (fun μ_ Γ w_=>∃ (k:Nat) (sA:Option Addr) (sc:Nat) (us:List Value) (h_:Hp),μ_=qss.length-k∧Γ=[(0,.slice A vs.length cap),(2,.slice none 0 0),(4,.int .i64 (k:Nat)),(3,.slice sA ((us).length) sc)]∧SS w h w_ h_ [] [⟨35,1,sA,sc,(us).length,(us).flatMap vc⟩] [fun h_=>QVs h_ us (qss.take k),fun h_=>Tab h_,fun h_=>RVs h_ vs qss,fun h_=>SlO 1 vc undef h_ A vs]∧(k≤qss.length)) _ ⟨0,none,0,[],h,rfl,rfl,hs.to _ _,Nat.zero_le _⟩ ?_
 rintro _ _ w1 ⟨k,sA,sc,us,h2,hm3,rfl,hs,hk⟩
 have hlU:=(hs.f.1).len
 have htk:(qss.take k).length=k:=by simp;omega
 refine CG.seq (cSL (lL hs [.m 5 4,.m 6 0,.v 7 (.int .i64 (vs.length:Nat))] ?_))
 cases hb4:(decide (((k:Nat):Int)<((vs.length:Nat):Int)))
 ·
  have phb4:=oF hb4
  refine lB 8 hb4 ?_
  refine lN (cIF (CG.exit ?_))
  show CG _ _ _ _ _ _ _ _
  refine cSL (lL hs [.m 19 3,.m 2 19] (lN (CG.ret ?_)))
  have hkq:qss.take k=qss:=List.take_of_length_le oM
  rw[hkq] at hs
  obtain ⟨h5,hs,hc6⟩:=hs.pubr 0 (A:=sA) (c:=sc) (l:=us) (f:=vc) (ty:=35) (sz:=1) undef (fun _=>rfl)
  exact hs.ret [] (.slice sA ((us).length) sc) (⟨_,_,us,rfl,hc6,(hs.f.1),(hs.f.2.1)⟩)
 have phb4:=oT hb4
 refine lB 8 hb4 ?_
 refine lN (cIT (CG.skipN (CG.seq (CG.block (CG.listed (lL hs [.m 11 3,.m 12 0,.m 13 4] (lX 14 A vs.length cap 1 (k:Nat) k ((hs.f.2.2.2.1).ok oM) ?_)))))))
 obtain ⟨Arx,crx,trx,erx,hcrx,hRrx,hTrx⟩:=(hs.f.2.2.1).at_ k oM
 have hlrx:=hTrx.len
 replace hs:=((hs.a_SlO hRrx).add (K:=fun h_=>RTs h_ trx (qss.getD k [])) hTrx)
 refine lHe 15 (vs.getD k undef) hs ((hs.f.2.2.2.2.2.1).el k oM) erx ?_
 refine lC 16 hs (hInRow Arx crx trx (qss.getD k []) (hls k oM) (hf k oM) _ _ hs.g (hs.f.2.1) (hs.f.1) (hs.f.2.2.2.1)) ?_
 rintro _ w8 h9 hs ⟨Au,cu,rfl,hcu,hAu⟩
 replace hs:=(hs.a_SlO hAu)
 refine lR 17 35 1 ([.slice Au ((qss.getD k []).length) cu]) hs (fun b10 w11 h12 hs=>?_)
 refine lY 18 0 35 1 sc sA us vc (.slice Au ((qss.getD k []).length) cu:Value) 24 b10 (.slice none 0 0) hs (hs.f.1) (fun A14 c15 w16 h17 hs=>?_)
 refine lL hs [.m 3 18] (lN (CG.listed (lL hs [.m 9 4] (lIn 10 ((k:Nat)+1) (k+1) ?_))))
 refine lL hs [.m 4 10] (lD ?_)
 intro a_ ka
 have q19:QVs h17 (us++[(.slice Au ((qss.getD k []).length) cu:Value)]) (qss.take (k+1)):=(by rw[take_snoc' [] oM];exact (hs.f.2.2.2.2.1).snoc ⟨Au,cu,rfl,hcu,(hs.f.2.1)⟩)
 have q20:(k+1)≤qss.length:=by omega
 replace hs:=(hs.tl.tl.tl.tl.tl.add (K:=fun h_=>QVs h_ (us++[(.slice Au ((qss.getD k []).length) cu:Value)]) (qss.take (k+1))) q19)
 refine ⟨_,_,?_,⟨k+1,A14,c15,us++[(.slice Au ((qss.getD k []).length) cu:Value)],h17,rfl,rfl,hs.to _ _,q20⟩,ka.to [(0,.slice A vs.length cap),(2,.slice none 0 0),(4,.int .i64 ((k+1):Nat)),(3,.slice A14 (((us++[(.slice Au ((qss.getD k []).length) cu:Value)])).length) c15)] kR⟩
 omega
theorem rDot (A:Option Addr)(ca:Nat)(a:List Rat)(ta:List RT)(D:Option Addr)(cd:Nat)(b:List Rat)(tb_:List RT)(K L:Nat)(hl:a.length≤b.length)(hn:a.length≤1000000)(hb:a.length*(K+L+1)+K+L+2≤100000000)(ha:∀ i,i<a.length→LQ K (a.getD i 0))(hbb:∀ i,i<a.length→LQ L (b.getD i 0))(w:World)(h:Hp)(g:G w h)(hA:SlO 3 rqc rqd h A ta)(hT:RTs h ta a)(hD:SlO 3 rqc rqd h D tb_)(hU:RTs h tb_ b) :
    Calls Tryz.prog 42 #[.slice A ta.length ca,.slice D tb_.length cd] w (Ret w h fun v h1=>RQ h1 v (dotq a b a.length)):=by
 have hs:=SS.start g
 replace hs:=((((hs.a_SlO hA).add (K:=fun h_=>RTs h_ ta a) hT).a_SlO hD).add (K:=fun h_=>RTs h_ tb_ b) hU)
 have hlt:=(hs.f.2.2.1).len
 have hlu:=(hs.f.1).len
 refine go Tryz.func42 [(0,.slice A ta.length ca),(1,.slice D tb_.length cd)] rfl ?_
 refine cSL (lA 4 74 ([.bool false,.slice none 0 0,.slice none 0 0]) hs (fun b1 w2 h3 hs=>?_))
 refine lNS (lC 7 hs (rOf 0 oM oM _ _ hs.g) ?_)
 rintro _ w12 h13 hs ⟨A4,c5,A8,c9,rfl,hc6,hc10,hA7,hA11⟩
 replace hs:=((hs.a_SlO hA7).a_SlO hA11)
 refine lA 5 74 ([.bool false,.slice none 0 0,.slice none 0 0]) hs (fun b14 w15 h16 hs=>?_)
 refine lP 0 0 ([.bool (ineg ((0:Int):Rat).num),.slice A4 ((lim (iabs ((0:Int):Rat).num)).length) c5,.slice A8 ((lim ((0:Int):Rat).den).length) c9]) hs (fun w17 hs=>?_)
 refine lN (CG.seq (cSL (lL hs [.v 6 (.int .i64 0)] (lN (CG.block (cTo [(0,.slice A ta.length ca),(1,.slice D tb_.length cd),(4,.pointer (some ⟨b1,0,none⟩)),(5,.pointer (some ⟨b14,0,none⟩)),(6,.int .i64 0)] ?_))))))
 replace hs:=hs.add (K:=fun h_=>SlO 1 u32c 0 h_ A8 (lim (dotq a b 0).den)) ((hs.f.1))
 replace hs:=hs.add (K:=fun h_=>SlO 1 u32c 0 h_ A4 (lim (iabs (dotq a b 0).num))) ((hs.f.2.2.1))
 refine CG.loop (fun μ_ Γ w_=>∃ (k:Nat) (AS:Option Addr) (cS:Nat) (DS:Option Addr) (dS:Nat) (h_:Hp),μ_=a.length-k∧Γ=[(0,.slice A ta.length ca),(1,.slice D tb_.length cd),(4,.pointer (some ⟨b1,0,none⟩)),(5,.pointer (some ⟨b14,0,none⟩)),(6,.int .i64 (k:Nat))]∧SS w h w_ h_ [⟨b14,74,[.bool (ineg (dotq a b k).num),.slice AS ((lim (iabs (dotq a b k).num)).length) cS,.slice DS ((lim (dotq a b k).den).length) dS]⟩,⟨b1,74,[.bool false,.slice none 0 0,.slice none 0 0]⟩] [] [fun h_=>SlO 1 u32c 0 h_ AS (lim (iabs (dotq a b k).num)),fun h_=>SlO 1 u32c 0 h_ DS (lim (dotq a b k).den),fun h_=>SlO 1 u32c 0 h_ A8 (lim ((0:Int):Rat).den),fun h_=>SlO 1 u32c 0 h_ A4 (lim (iabs ((0:Int):Rat).num)),fun h_=>RTs h_ tb_ b,fun h_=>SlO 3 rqc rqd h_ D tb_,fun h_=>RTs h_ ta a,fun h_=>SlO 3 rqc rqd h_ A ta]∧(k≤a.length)∧((lim (iabs (dotq a b k).num)).length≤cS)∧((lim (dotq a b k).den).length≤dS)) _ ⟨0,A4,c5,A8,c9,h16,rfl,rfl,hs.to _ _,Nat.zero_le _,hc6,hc10⟩ ?_
 rintro _ _ w18 ⟨k,AS,cS,DS,dS,h19,hm20,rfl,hs,hk,hcS,hdS⟩
 have hmk:k*(K+L+1)≤a.length*(K+L+1):=Nat.mul_le_mul_right _ hk
 have hdk:LQ (100000000-K-L-1) (dotq a b k):=(LQ.dot ha hbb k hk).mono oM
 refine CG.seq (cSL (lL hs [.m 8 6,.m 9 0,.v 10 (.int .i64 (ta.length:Nat))] ?_))
 cases hb21:(decide (((k:Nat):Int)<((ta.length:Nat):Int)))
 ·
  have phb21:=oF hb21
  refine lB 11 hb21 ?_
  refine lN (cIF (CG.exit ?_))
  show CG _ _ _ _ _ _ _ _
  refine cSL (lL hs [.o 25 (.agg #[.bool (ineg (dotq a b k).num),.slice AS ((lim (iabs (dotq a b k).num)).length) cS,.slice DS ((lim (dotq a b k).den).length) dS]) 0 0 3] (lP 1 0 ([.bool (ineg (dotq a b k).num),.slice AS ((lim (iabs (dotq a b k).num)).length) cS,.slice DS ((lim (dotq a b k).den).length) dS]) hs (fun w22 hs=>?_)))
  exact lN (CG.ret (hs.ret [(1,0,3)] (.agg #[.bool (ineg (dotq a b k).num),.slice AS ((lim (iabs (dotq a b k).num)).length) cS,.slice DS ((lim (dotq a b k).den).length) dS]) (by rw[show a.length=k by omega];exact ⟨_,_,_,_,rfl,hcS,hdS,(hs.f.1),(hs.f.2.1)⟩)))
 have phb21:=oT hb21
 refine lB 11 hb21 ?_
 refine lN (cIT (CG.skipN (CG.seq (CG.block (cR 11 [] mixed hs al_nil ?_)))))
 refine eO 0 14 [(0,0,3)] (.agg #[.bool (ineg (dotq a b k).num),.slice AS ((lim (iabs (dotq a b k).num)).length) cS,.slice DS ((lim (dotq a b k).den).length) dS]) hs ?_
 refine eV 1 15 (.slice A ta.length ca) ?_
 refine eV 2 16 (.int .i64 (k:Nat)) ?_
 refine eX 3 17 A ta.length ca 3 (k:Nat) k ((hs.f.2.2.2.2.2.2.2.1).ok oM) ?_
 obtain ⟨Ax,cx,Dx,dx,ex,hcx,hdx,hAx,hDx⟩:=(hs.f.2.2.2.2.2.2.1).at_ k oM
 replace hs:=((hs.a_SlO hAx).a_SlO hDx)
 refine eHe 4 18 (.agg #[.bool ((ta.getD k rqd).1),(ta.getD k rqd).2.1,(ta.getD k rqd).2.2]) hs ((hs.f.2.2.2.2.2.2.2.2.2.1).el k oM) ex ?_
 refine eV 5 19 (.slice D tb_.length cd) ?_
 refine eV 6 20 (.int .i64 (k:Nat)) ?_
 refine eX 7 21 D tb_.length cd 3 (k:Nat) k ((hs.f.2.2.2.2.2.2.2.1).ok oM) ?_
 obtain ⟨Ay,cy,Dy,dy,ey,hcy,hdy,hAy,hDy⟩:=(hs.f.2.2.2.2.2.2.1).at_ k oM
 replace hs:=((hs.a_SlO hAy).a_SlO hDy)
 refine eHe 8 22 (.agg #[.bool ((tb_.getD k rqd).1),(tb_.getD k rqd).2.1,(tb_.getD k rqd).2.2]) hs ((hs.f.2.2.2.2.2.2.2.2.2.1).el k oM) ey ?_
 have hq23:=LQ.mul (ha k oM) (hbb k oM)
 refine eC 9 23 hs (fun _ _ hs=>rMul (a.getD k 0) Ax cx Dx dx hcx hdx (LQ.ln (LQ.mono (ha k oM) oM)) (LQ.ld (LQ.mono (ha k oM) oM)) (b.getD k 0) Ay cy Dy dy hcy hdy (LQ.ln (LQ.mono (hbb k oM) oM)) (LQ.ld (LQ.mono (hbb k oM) oM)) _ _ hs.g (hs.f.2.2.2.1) (hs.f.2.2.1) (hs.f.2.1) (hs.f.1)) ?_
 rintro _ _ _ w32 h33 hs ⟨A24,c25,A28,c29,rfl,hc26,hc30,hA27,hA31⟩
 replace hs:=((hs.a_SlO hA27).a_SlO hA31)
 have hq34:=LQ.add hdk hq23
 refine eC 10 24 hs (fun _ _ hs=>rAdd (dotq a b k) AS cS DS dS hcS hdS (LQ.ln (LQ.mono hdk oM)) (LQ.ld (LQ.mono hdk oM)) ((a.getD k 0)*(b.getD k 0)) A24 c25 A28 c29 hc26 hc30 (LQ.ln (LQ.mono hq23 oM)) (LQ.ld (LQ.mono hq23 oM)) _ _ hs.g (hs.f.2.2.2.2.2.2.1) (hs.f.2.2.2.2.2.2.2.1) (hs.f.2.1) (hs.f.1)) ?_
 rintro _ _ _ w43 h44 hs ⟨A35,c36,A39,c40,rfl,hc37,hc41,hA38,hA42⟩
 replace hs:=((hs.a_SlO hA38).a_SlO hA42)
 refine eD0 hs (fun w45 h46 hs=>?_)
 refine tP 11 0 0 ([.bool (ineg ((dotq a b k)+((a.getD k 0)*(b.getD k 0))).num),.slice A35 ((lim (iabs ((dotq a b k)+((a.getD k 0)*(b.getD k 0))).num)).length) c36,.slice A39 ((lim ((dotq a b k)+((a.getD k 0)*(b.getD k 0))).den).length) c40]) hs (fun w47 hs=>?_)
 refine tN (CG.listed (lL hs [.m 12 6] (lIn 13 ((k:Nat)+1) (k+1) ?_)))
 refine lL hs [.m 6 13] (lD ?_)
 intro a_ ka
 have q48:SlO 1 u32c 0 h46 A35 (lim (iabs (dotq a b (k+1)).num)):=(hs.f.2.1)
 have q49:SlO 1 u32c 0 h46 A39 (lim (dotq a b (k+1)).den):=(hs.f.1)
 have q50:(k+1)≤a.length:=by omega
 have q51:(lim (iabs (dotq a b (k+1)).num)).length≤c36:=hc37
 have q52:(lim (dotq a b (k+1)).den).length≤c40:=hc41
 replace hs:=((hs.tl.tl.tl.tl.tl.tl.tl.tl.tl.tl.add (K:=fun h_=>SlO 1 u32c 0 h_ A39 (lim (dotq a b (k+1)).den)) q49).add (K:=fun h_=>SlO 1 u32c 0 h_ A35 (lim (iabs (dotq a b (k+1)).num))) q48)
 refine ⟨_,_,?_,⟨k+1,A35,c36,A39,c40,h46,rfl,rfl,hs.to _ _,q50,q51,q52⟩,ka.to [(0,.slice A ta.length ca),(1,.slice D tb_.length cd),(4,.pointer (some ⟨b1,0,none⟩)),(5,.pointer (some ⟨b14,0,none⟩)),(6,.int .i64 ((k+1):Nat))] kR⟩
 omega
theorem fDot (A:Option Addr)(ca:Nat)(a:List Rat)(D:Option Addr)(cd:Nat)(b:List Rat)(K L:Nat)(hl:a.length=b.length)(hn:a.length≤1000000)(hb:a.length*(K+L+1)+K+L+2≤100000000)(ha:∀ i,i<a.length→LQ K (a.getD i 0))(hbb:∀ i,i<a.length→LQ L (b.getD i 0))(w:World)(h:Hp)(g:G w h)(hA:SlO 5 qc 0 h A a)(hD:SlO 5 qc 0 h D b)(tb:Tab h) :
    Calls Tryz.prog 17 #[.slice A a.length ca,.slice D b.length cd] w (Ret w h fun v _=>v=.tuple #[qv (dotq a b a.length),.bool true]):=by
 have hs:=SS.start g
 replace hs:=(((hs.a_SlO hA).a_SlO hD).add (K:=fun h_=>Tab h_) tb)
 refine go Tryz.func17 [(0,.slice A a.length ca),(1,.slice D b.length cd)] rfl ?_
 refine cSL (lA 4 56 ([.bool false,.int .u64 0,.string ⟨#[]⟩,.int .u64 0,.string ⟨#[]⟩]) hs (fun b1 w2 h3 hs=>?_))
 refine lL hs [.v 5 (.bool false)] (lN (CG.seq (cSL (lL hs [.m 9 0,.v 10 (.int .i64 (a.length:Nat)),.m 11 1,.v 12 (.int .i64 (b.length:Nat))] ?_))))
 have hb4:(((a.length:Nat):Int) != ((b.length:Nat):Int))=false:=bneF oM
 have phb4:=eqOfBne hb4
 refine lB 13 hb4 ?_
 refine lN (cIF (CG.skipN (cSL (lA 6 56 ([.bool false,.int .u64 0,.string ⟨#[]⟩,.int .u64 0,.string ⟨#[]⟩]) hs (fun b5 w6 h7 hs=>?_)))))
 refine lN (CG.seq (cSL (lL hs [.m 15 0,.v 16 (.int .i64 (a.length:Nat)),.v 17 (.int .i64 0)] (lN (CG.block (cTo [(1,.slice D b.length cd),(4,.pointer (some ⟨b1,0,none⟩)),(5,.bool false),(6,.pointer (some ⟨b5,0,none⟩)),(15,.slice A a.length ca),(16,.int .i64 (a.length:Nat)),(17,.int .i64 0)] ?_))))))
 refine CG.loop (fun μ_ Γ w_=>∃ (k:Nat) (h_:Hp),μ_=a.length-k∧Γ=[(1,.slice D b.length cd),(4,.pointer (some ⟨b1,0,none⟩)),(5,.bool false),(6,.pointer (some ⟨b5,0,none⟩)),(15,.slice A a.length ca),(16,.int .i64 (a.length:Nat)),(17,.int .i64 (k:Nat))]∧SS w h w_ h_ [⟨b5,56,qc (dotq a b k)⟩,⟨b1,56,[.bool false,.int .u64 0,.string ⟨#[]⟩,.int .u64 0,.string ⟨#[]⟩]⟩] [] [fun h_=>Tab h_,fun h_=>SlO 5 qc 0 h_ D b,fun h_=>SlO 5 qc 0 h_ A a]∧(k≤a.length)) _ ⟨0,h7,rfl,rfl,hs.to _ _,Nat.zero_le _⟩ ?_
 rintro _ _ w8 ⟨k,h9,hm10,rfl,hs,hk⟩
 have hmk:k*(K+L+1)≤a.length*(K+L+1):=Nat.mul_le_mul_right _ hk
 have hdk:LQ (100000000-K-L-1) (dotq a b k):=(LQ.dot ha hbb k hk).mono oM
 refine cSL ?_
 cases hb11:(decide (((k:Nat):Int)<((a.length:Nat):Int)))
 ·
  have phb11:=oF hb11
  refine lB 18 hb11 ?_
  refine lN (CG.seq (cIF (CG.exit ?_)))
  show CG _ _ _ _ _ _ _ _
  refine cSL (lL hs [.o 31 (qv (dotq a b k)) 0 0 5] (lP 1 0 (qc (dotq a b k)) hs (fun w12 hs=>?_)))
  exact lL hs [.v 5 (.bool true)] (lN (CG.ret (hs.ret [(1,0,5)] (.tuple #[qv (dotq a b k),.bool true]) (by rw[show a.length=k by omega]))))
 have phb11:=oT hb11
 refine lB 18 hb11 ?_
 refine lN (CG.seq (cIT (CG.skipN (CG.seq (CG.block (cSL (lL hs [.m 19 17] (lX 20 A a.length ca 5 (k:Nat) k ((hs.f.2.2.1).ok oM) ?_))))))))
 refine lH 21 (qv (a.getD k 0)) hs ((hs.f.2.2.1).el k oM) ?_
 refine lA 8 56 ([.bool false,.int .u64 0,.string ⟨#[]⟩,.int .u64 0,.string ⟨#[]⟩]) hs (fun b13 w14 h15 hs=>?_)
 refine lL hs [.m 7 19] (lP 0 0 (qc (a.getD k 0)) hs (fun w16 hs=>?_))
 refine lN (cR 8 [] mixed hs al_nil ?_)
 refine eO 0 22 [(1,0,5)] (qv (dotq a b k)) hs ?_
 refine eO 1 23 [(0,0,5)] (qv (a.getD k 0)) hs ?_
 refine eV 2 24 (.slice D b.length cd) ?_
 refine eV 3 25 (.int .i64 (k:Nat)) ?_
 refine eX 4 26 D b.length cd 5 (k:Nat) k ((hs.f.2.1).ok oM) ?_
 refine eH 5 27 (qv (b.getD k 0)) hs ((hs.f.2.1).el k oM) ?_
 have hq17:=LQ.mul (ha k oM) (hbb k oM)
 refine eC 6 28 hs (fun _ _ hs=>fMul (a.getD k 0) (b.getD k 0) (LQ.mono (ha k oM) oM) (LQ.mono (hbb k oM) oM) _ _ hs.g (hs.f.1)) ?_
 rintro _ _ _ w18 h19 hs rfl
 have hq20:=LQ.add hdk hq17
 refine eC 7 29 hs (fun _ _ hs=>fAdd (dotq a b k) ((a.getD k 0)*(b.getD k 0)) (LQ.mono hdk oM) (LQ.mono hq17 oM) _ _ hs.g (hs.f.1)) ?_
 rintro _ _ _ w21 h22 hs rfl
 refine eD0 hs (fun w23 h24 hs=>?_)
 refine tP 8 1 0 (qc ((dotq a b k)+((a.getD k 0)*(b.getD k 0)))) hs (fun w25 hs=>?_)
 refine tN (CG.listed (lIn 30 ((k:Nat)+1) (k+1) ?_))
 refine lL hs [.m 17 30] (lD ?_)
 intro a_ ka
 have q26:(k+1)≤a.length:=by omega
 replace hs:=hs.drop 1 0
 refine ⟨_,_,?_,⟨k+1,h24,rfl,rfl,hs.to _ _,q26⟩,ka.to [(1,.slice D b.length cd),(4,.pointer (some ⟨b1,0,none⟩)),(5,.bool false),(6,.pointer (some ⟨b5,0,none⟩)),(15,.slice A a.length ca),(16,.int .i64 (a.length:Nat)),(17,.int .i64 ((k+1):Nat))] kR⟩
 omega
structure Lay where
  k:Int
  W:List (List Rat)
  B:List Rat
def lay0:Lay:=⟨0,[],[]⟩
abbrev LV:=Int × Value × Value
def lvd:LV:=(0,undef,undef)
structure NetL (h:Hp) (ts:List LV) (ls:List Lay):Prop where
  len:ts.length=ls.length
  at_:∀ i,i<ls.length→(ts.getD i lvd).1=(ls.getD i lay0).k∧(∃ A c,∃ us:List Value,(ts.getD i lvd).2.1=.slice A us.length c∧us.length≤c∧SlO 1 vc undef h A us∧QVs h us (ls.getD i lay0).W)∧SlV 5 qc 0 h (ts.getD i lvd).2.2 (ls.getD i lay0).B
structure RNetL (h:Hp) (ts:List LV) (ls:List Lay):Prop where
  len:ts.length=ls.length
  at_:∀ i,i<ls.length→(ts.getD i lvd).1=(ls.getD i lay0).k∧(∃ A c,∃ us:List Value,(ts.getD i lvd).2.1=.slice A us.length c∧us.length≤c∧SlO 1 vc undef h A us∧RVs h us (ls.getD i lay0).W) ∧
    (∃ A c,∃ rs:List RT,(ts.getD i lvd).2.2=.slice A rs.length c∧rs.length≤c∧SlO 3 rqc rqd h A rs∧RTs h rs (ls.getD i lay0).B)
def Smalls (l:List Rat):Prop:=∀ q∈l,∃ z,q=smallq z
structure LayMk (L:Lay) (kq:Nat) (r c:Nat):Prop where
  k:L.k=(kq:Int)
  rows:L.W.length=r
  row:∀ q∈L.W,q.length=c∧Smalls q
  bl:L.B.length=r
  bs:Smalls L.B
structure LayFit (L:Lay):Prop where
  rl:L.W.length≤1000000
  rls:∀ i,i<L.W.length→(L.W.getD i []).length≤1000000
  rf:∀ i,i<L.W.length→∀ j,j<(L.W.getD i []).length→LQ 100000000 ((L.W.getD i []).getD j 0)
  bl:L.B.length≤1000000
  bf:∀ i,i<L.B.length→LQ 100000000 (L.B.getD i 0)
def RightP (W:List (List Rat)):Prop:=0<W.length∧0<(W.getD 0 []).length∧∀ i,i<W.length→(W.getD i []).length=(W.getD 0 []).length
noncomputable def rightq (W:List (List Rat)):Bool:=@decide (RightP W) (Classical.propDecidable _)
theorem right_step {W:List (List Rat)}{k:Nat}(hR:∀ i,i<k→(W.getD i []).length=(W.getD 0 []).length)(h:(W.getD k []).length=(W.getD 0 []).length):∀ i,i<k+1→(W.getD i []).length=(W.getD 0 []).length:=fun i hi=>by
  by_cases e:i=k
  · rw[e];exact h
  · exact hR i oM
theorem rq_t {W:List (List Rat)}(h:RightP W):Value.bool true=.bool (rightq W):=by unfold rightq;rw[@decide_eq_true _ (Classical.propDecidable _) h]
theorem rq_f {W:List (List Rat)}(h:¬RightP W):Value.bool false=.bool (rightq W):=by unfold rightq;rw[@decide_eq_false _ (Classical.propDecidable _) h]
theorem rq_is {W:List (List Rat)}(h:rightq W=true):RightP W:=by unfold rightq at h;exact @oT _ (Classical.propDecidable _) h
theorem rq_not {W:List (List Rat)}(h:rightq W=false):¬RightP W:=by unfold rightq at h;exact @oF _ (Classical.propDecidable _) h
theorem mRightG (A:Option Addr)(cap:Nat)(us:List Value)(W:List (List Rat))(hl:W.length≤1000000)(hls:∀ i,i<W.length→(W.getD i []).length≤1000000)(w:World)(h:Hp)(g:G w h)(hA:SlO 1 vc undef h A us)(hU:QVs h us W) :
    Calls Tryz.prog 49 #[.slice A us.length cap] w (Ret w h fun v _=>v=.bool (rightq W)):=by
 have hs:=SS.start g
 replace hs:=((hs.a_SlO hA).add (K:=fun h_=>QVs h_ us W) hU)
 have hlu:=(hs.f.1).len
 refine go Tryz.func49 [(0,.slice A us.length cap)] rfl ?_
 refine cSL (lL hs [.v 2 (.bool false)] (lN (CG.seq (cSL (lL hs [.m 5 0,.v 6 (.int .i64 (us.length:Nat))] ?_)))))
 cases hb1:(((us.length:Nat):Int) == (0:Int))
 ·
  have phb1:=neOfBeq hb1
  refine lB 7 hb1 ?_
  refine lL hs [.m 8 7,.m 9 0] (lX 10 A us.length cap 1 0 0 ((hs.f.2.1).ok oM) ?_)
  obtain ⟨Aqz,cqz,eqz,hcqz,hRqz⟩:=(hs.f.1).at_ 0 oM
  replace hs:=(hs.a_SlO hRqz)
  refine lHe 11 (us.getD 0 undef) hs ((hs.f.2.2.1).el 0 oM) eqz ?_
  refine lL hs [.v 12 (.int .i64 ((W.getD 0 []).length:Nat))] ?_
  cases hb2:((((W.getD 0 []).length:Nat):Int) == (0:Int))
  ·
   have phb2:=neOfBeq hb2
   refine lB 13 hb2 ?_
   refine lL hs [.v 14 (.bool false)] (lN (cIF (CG.skipN (CG.seq (cSL (lL hs [.m 15 0,.v 16 (.int .i64 (us.length:Nat)),.v 17 (.int .i64 0)] (lN (CG.block (cTo [(0,.slice A us.length cap),(15,.slice A us.length cap),(16,.int .i64 (us.length:Nat)),(17,.int .i64 0)] ?_)))))))))
   refine CG.loop (fun μ_ Γ w_=>∃ (k:Nat) (h_:Hp),μ_=us.length-k∧Γ=[(0,.slice A us.length cap),(15,.slice A us.length cap),(16,.int .i64 (us.length:Nat)),(17,.int .i64 (k:Nat))]∧SS w h w_ h_ [] [] [fun h_=>SlO 5 qc 0 h_ Aqz (W.getD 0 []),fun h_=>QVs h_ us W,fun h_=>SlO 1 vc undef h_ A us]∧(k≤us.length)∧(∀ i,i<k→(W.getD i []).length=(W.getD 0 []).length)) _ ⟨0,h,rfl,rfl,hs.to _ _,Nat.zero_le _,fun i hi=>absurd hi (Nat.not_lt_zero i)⟩ ?_
   rintro _ _ w3 ⟨k,h4,hm5,rfl,hs,hk,hR⟩
   refine cSL ?_
   cases hb6:(decide (((k:Nat):Int)<((us.length:Nat):Int)))
   ·
    have phb6:=oF hb6
    refine lB 18 hb6 ?_
    refine lN (CG.seq (cIF (CG.exit ?_)))
    show CG _ _ _ _ _ _ _ _
    exact cSL (lL hs [.v 2 (.bool true)] (lN (CG.ret (hs.ret [] (.bool true) (rq_t ⟨by omega,by omega,fun i hi=>hR i oM⟩)))))
   have phb6:=oT hb6
   refine lB 18 hb6 ?_
   refine lN (CG.seq (cIT (CG.skipN (CG.seq (CG.block (cSL (lX 19 A us.length cap 1 (k:Nat) k ((hs.f.2.2.1).ok oM) ?_)))))))
   obtain ⟨Aqx,cqx,eqx,hcqx,hRqx⟩:=(hs.f.2.1).at_ k oM
   replace hs:=(hs.a_SlO hRqx)
   refine lHe 20 (us.getD k undef) hs ((hs.f.2.2.2.1).el k oM) eqx ?_
   refine lL hs [.m 4 20] (lNS (lL hs [.m 21 4,.v 22 (.int .i64 ((W.getD k []).length:Nat)),.m 23 0] (lX 24 A us.length cap 1 0 0 ((hs.f.2.2.2.1).ok oM) ?_)))
   obtain ⟨Aqy,cqy,eqy,hcqy,hRqy⟩:=(hs.f.2.2.1).at_ 0 oM
   replace hs:=(hs.a_SlO hRqy)
   refine lHe 25 (us.getD 0 undef) hs ((hs.f.2.2.2.2.1).el 0 oM) eqy ?_
   refine lL hs [.v 26 (.int .i64 ((W.getD 0 []).length:Nat))] ?_
   cases hb7:((((W.getD k []).length:Nat):Int) != (((W.getD 0 []).length:Nat):Int))
   ·
    have phb7:=eqOfBne hb7
    refine lB 27 hb7 ?_
    refine lN (cIF (CG.skipN (CG.listed (lIn 28 ((k:Nat)+1) (k+1) ?_))))
    refine lL hs [.m 17 28] (lD ?_)
    intro a_ ka
    have q8:(k+1)≤us.length:=by omega
    have q9:∀ i,i<(k+1)→(W.getD i []).length=(W.getD 0 []).length:=right_step hR oM
    replace hs:=hs.tl.tl
    refine ⟨_,_,?_,⟨k+1,h4,rfl,rfl,hs.to _ _,q8,q9⟩,ka.to [(0,.slice A us.length cap),(15,.slice A us.length cap),(16,.int .i64 (us.length:Nat)),(17,.int .i64 ((k+1):Nat))] kR⟩
    omega
   have phb7:=neOfBne hb7
   refine lB 27 hb7 ?_
   exact lN (cIT (cSL (lL hs [.v 2 (.bool false)] (lN (CG.ret (hs.ret [] (.bool false) (rq_f (fun h_=>by have h1_:=h_.1;have h2_:=h_.2.1;have h3_:=h_.2.2 k oM;omega))))))))
  have phb2:=eq_of_beq hb2
  refine lB 13 hb2 ?_
  exact lL hs [.v 14 (.bool true)] (lN (cIT (cSL (lL hs [.v 2 (.bool false)] (lN (CG.ret (hs.ret [] (.bool false) (rq_f (fun h_=>by have h1_:=h_.1;have h2_:=h_.2.1;omega)))))))))
 have phb1:=eq_of_beq hb1
 refine lB 7 hb1 ?_
 refine lL hs [.m 8 7] (lG 9 ?_)
 refine lG 10 ?_
 refine lG 11 ?_
 refine lG 12 ?_
 refine lG 13 ?_
 exact lL hs [.v 14 (.bool true)] (lN (cIT (cSL (lL hs [.v 2 (.bool false)] (lN (CG.ret (hs.ret [] (.bool false) (rq_f (fun h_=>by have h1_:=h_.1;have h2_:=h_.2.1;omega)))))))))
theorem rRightG (A:Option Addr)(cap:Nat)(us:List Value)(W:List (List Rat))(hl:W.length≤1000000)(hls:∀ i,i<W.length→(W.getD i []).length≤1000000)(w:World)(h:Hp)(g:G w h)(hA:SlO 1 vc undef h A us)(hU:RVs h us W) :
    Calls Tryz.prog 69 #[.slice A us.length cap] w (Ret w h fun v _=>v=.bool (rightq W)):=by
 have hs:=SS.start g
 replace hs:=((hs.a_SlO hA).add (K:=fun h_=>RVs h_ us W) hU)
 have hlu:=(hs.f.1).len
 refine go Tryz.func69 [(0,.slice A us.length cap)] rfl ?_
 refine cSL (lL hs [.v 2 (.bool false)] (lN (CG.seq (cSL (lL hs [.v 3 (.int .i64 0)] (lN (CG.block (cTo [(0,.slice A us.length cap),(3,.int .i64 0)] ?_))))))))
 refine CG.loop (fun μ_ Γ w_=>∃ (k:Nat) (h_:Hp),μ_=us.length-k∧Γ=[(0,.slice A us.length cap),(3,.int .i64 (k:Nat))]∧SS w h w_ h_ [] [] [fun h_=>RVs h_ us W,fun h_=>SlO 1 vc undef h_ A us]∧(k≤us.length)∧(∀ i,i<k→(W.getD i []).length=(W.getD 0 []).length)∧(0<k→0<(W.getD 0 []).length)) _ ⟨0,h,rfl,rfl,hs.to _ _,Nat.zero_le _,fun i hi=>absurd hi (Nat.not_lt_zero i),fun h_=>absurd h_ (Nat.lt_irrefl 0)⟩ ?_
 rintro _ _ w1 ⟨k,h2,hm3,rfl,hs,hk,hR,hR0⟩
 refine CG.seq (cSL (lL hs [.m 4 3,.m 5 0,.v 6 (.int .i64 (us.length:Nat))] ?_))
 cases hb4:(decide (((k:Nat):Int)<((us.length:Nat):Int)))
 ·
  have phb4:=oF hb4
  refine lB 7 hb4 ?_
  refine lN (cIF (CG.exit ?_))
  show CG _ _ _ _ _ _ _ _
  refine cSL (lL hs [.m 28 0,.v 29 (.int .i64 (us.length:Nat))] ?_)
  cases hb5:(decide ((0:Int)<((us.length:Nat):Int)))
  ·
   have phb5:=oF hb5
   refine lB 30 hb5 ?_
   exact lL hs [.m 2 30] (lN (CG.ret (hs.ret [] (.bool false) (rq_f (fun h_=>by have h1_:=h_.1;have h2_:=h_.2.1;first|omega|(have h3_:=h_.2.2 k oM;omega))))))
  have phb5:=oT hb5
  refine lB 30 hb5 ?_
  exact lL hs [.m 2 30] (lN (CG.ret (hs.ret [] (.bool true) (rq_t ⟨by omega,hR0 oM,fun i hi=>hR i oM⟩))))
 have phb4:=oT hb4
 refine lB 7 hb4 ?_
 refine lN (cIT (CG.skipN (CG.seq (CG.block (CG.seq (cR 18 [] mixed hs al_nil ?_))))))
 refine eV 0 10 (.slice A us.length cap) ?_
 refine eV 1 11 (.int .i64 (k:Nat)) ?_
 refine eX 2 12 A us.length cap 1 (k:Nat) k ((hs.f.2.1).ok oM) ?_
 obtain ⟨Arx,crx,trx,erx,hcrx,hRrx,hTrx⟩:=(hs.f.1).at_ k oM
 have hlrx:=hTrx.len
 replace hs:=((hs.a_SlO hRrx).add (K:=fun h_=>RTs h_ trx (W.getD k [])) hTrx)
 refine eHe 3 13 (us.getD k undef) hs ((hs.f.2.2.2.1).el k oM) erx ?_
 refine eV 4 14 (.int .i64 (trx.length:Nat)) ?_
 refine eV 5 15 (.slice A us.length cap) ?_
 refine eX 6 16 A us.length cap 1 0 0 ((hs.f.2.2.2.1).ok oM) ?_
 obtain ⟨Arz,crz,trz,erz,hcrz,hRrz,hTrz⟩:=(hs.f.2.2.1).at_ 0 oM
 have hlrz:=hTrz.len
 replace hs:=((hs.a_SlO hRrz).add (K:=fun h_=>RTs h_ trz (W.getD 0 [])) hTrz)
 refine eHe 7 17 (us.getD 0 undef) hs ((hs.f.2.2.2.2.2.1).el 0 oM) erz ?_
 refine eV 8 18 (.int .i64 (trz.length:Nat)) ?_
 cases hb6:(((trx.length:Nat):Int) != ((trz.length:Nat):Int))
 ·
  have phb6:=eqOfBne hb6
  refine eB 9 19 hb6 ?_
  refine eV 10 20 (.bool false) ?_
  refine eV 11 21 (.slice A us.length cap) ?_
  refine eV 12 22 (.int .i64 (k:Nat)) ?_
  refine eX 13 23 A us.length cap 1 (k:Nat) k ((hs.f.2.2.2.2.2.1).ok oM) ?_
  obtain ⟨Arv,crv,trv,erv,hcrv,hRrv,hTrv⟩:=(hs.f.2.2.2.2.1).at_ k oM
  have hlrv:=hTrv.len
  replace hs:=((hs.a_SlO hRrv).add (K:=fun h_=>RTs h_ trv (W.getD k [])) hTrv)
  refine eHe 14 24 (us.getD k undef) hs ((hs.f.2.2.2.2.2.2.2.1).el k oM) erv ?_
  refine eV 15 25 (.int .i64 (trv.length:Nat)) ?_
  cases hb7:(((trv.length:Nat):Int) == (0:Int))
  ·
   have phb7:=neOfBeq hb7
   refine eB 16 26 hb7 ?_
   refine eV 17 27 (.bool false) ?_
   refine eD0 hs (fun w8 h9 hs=>?_)
   refine tN (cIF (CG.skipN (CG.listed (lL hs [.m 8 3] (lIn 9 ((k:Nat)+1) (k+1) ?_)))))
   refine lL hs [.m 3 9] (lD ?_)
   intro a_ ka
   have q10:(k+1)≤us.length:=by omega
   have q11:∀ i,i<(k+1)→(W.getD i []).length=(W.getD 0 []).length:=right_step hR oM
   have q12:0<(k+1)→0<(W.getD 0 []).length:=fun _=>by omega
   replace hs:=hs.tl.tl.tl.tl.tl.tl
   refine ⟨_,_,?_,⟨k+1,h9,rfl,rfl,hs.to _ _,q10,q11,q12⟩,ka.to [(0,.slice A us.length cap),(3,.int .i64 ((k+1):Nat))] kR⟩
   omega
  have phb7:=eq_of_beq hb7
  refine eB 16 26 hb7 ?_
  refine eV 17 27 (.bool true) ?_
  refine eD0 hs (fun w13 h14 hs=>?_)
  exact tN (cIT (cSL (lL hs [.v 2 (.bool false)] (lN (CG.ret (hs.ret [] (.bool false) (rq_f (fun h_=>by have h1_:=h_.1;have h2_:=h_.2.1;first|omega|(have h3_:=h_.2.2 k oM;omega)))))))))
 have phb6:=neOfBne hb6
 refine eB 9 19 hb6 ?_
 refine eV 10 20 (.bool true) ?_
 refine eG 11 21 ?_
 refine eG 12 22 ?_
 refine eG 13 23 ?_
 refine eG 14 24 ?_
 refine eG 15 25 ?_
 refine eG 16 26 ?_
 refine eV 17 27 (.bool true) ?_
 refine eD0 hs (fun w15 h16 hs=>?_)
 exact tN (cIT (cSL (lL hs [.v 2 (.bool false)] (lN (CG.ret (hs.ret [] (.bool false) (rq_f (fun h_=>by have h1_:=h_.1;have h2_:=h_.2.1;first|omega|(have h3_:=h_.2.2 k oM;omega)))))))))
structure LayLen (L:Lay):Prop where
  rl:L.W.length≤1000000
  rls:∀ i,i<L.W.length→(L.W.getD i []).length≤1000000
  bl:L.B.length≤1000000
def sig (f:Nat→Rat):Nat→Rat
  | 0=>0
  | n+1=>sig f n+f n
theorem sig_congr {f g:Nat→Rat}:∀ {n:Nat},(∀ i,i<n→f i=g i)→sig f n=sig g n
  | 0,_=>rfl
  | n+1,h=>by
    show sig f n+f n=sig g n+g n
    rw[sig_congr (fun i hi=>h i oM),h n oM]
theorem sig_lin (f g:Nat→Rat)(c:Rat):∀ n,sig (fun i=>f i+c*g i) n=sig f n+c*sig g n
  | 0=>by show (0:Rat)=0+c*0;grind
  | n+1=>by
    show sig _ n+(f n+c*g n)=(sig f n+f n)+c*(sig g n+g n)
    rw[sig_lin f g c n];grind
theorem sig_zero {f:Nat→Rat}:∀ {n:Nat},(∀ i,i<n→f i=0)→sig f n=0
  | 0,_=>rfl
  | n+1,h=>by
    show sig f n+f n=0
    rw[sig_zero (fun i hi=>h i oM),h n oM];grind
theorem sig_mul (c:Rat)(f:Nat→Rat):∀ n,sig (fun i=>c*f i) n=c*sig f n
  | 0=>by show (0:Rat)=c*0;grind
  | n+1=>by
    show sig _ n+c*f n=c*(sig f n+f n)
    rw[sig_mul c f n];grind
theorem sig_add (f g:Nat→Rat):∀ n,sig (fun i=>f i+g i) n=sig f n+sig g n
  | 0=>by show (0:Rat)=0+0;grind
  | n+1=>by
    show sig _ n+(f n+g n)=(sig f n+f n)+(sig g n+g n)
    rw[sig_add f g n];grind
theorem sig_swap (f:Nat→Nat→Rat)(m:Nat):∀ n,sig (fun i=>sig (fun j=>f i j) m) n=sig (fun j=>sig (fun i=>f i j) n) m
  | 0=>by
    show (0:Rat)=sig (fun _=>0) m
    rw[sig_zero (f:=fun _=>0) (fun i _=>rfl)]
  | n+1=>by
    show sig _ n+sig (fun j=>f n j) m=sig (fun j=>sig (fun i=>f i j) n+f n j) m
    rw[sig_swap f m n,sig_add]
theorem sig_le {f g:Nat→Rat}:∀ {n:Nat},(∀ i,i<n→f i≤g i)→sig f n≤sig g n
  | 0,_=>Rat.le_refl
  | n+1,h=>by
    have h1:=sig_le (fun i hi=>h i oM:∀ i,i<n→f i≤g i)
    have h2:=h n oM
    show sig f n+f n≤sig g n+g n
    grind
theorem sq_nn (a:Rat):0≤a*a:=by
  rcases Rat.le_total (a:=0) (b:=a) with h|h
  · exact Rat.mul_nonneg h h
  · have h2:0 ≤ -a:=by grind
    have:=Rat.mul_nonneg h2 h2
    grind
theorem sig_nn {f:Nat→Rat}:∀ {n:Nat},(∀ i,i<n→0≤f i)→0≤sig f n
  | 0,_=>Rat.le_refl
  | n+1,h=>by
    have h1:=sig_nn (fun i hi=>h i oM:∀ i,i<n→0≤f i)
    have h2:=h n oM
    show 0≤sig f n+f n
    grind
theorem sig_one (n:Nat):sig (fun _=>1) n=((n:Nat):Rat):=by
  induction n with
  | zero=>rfl
  | succ n ih=>show sig _ n+1=_;rw[ih];simp
theorem sig_pick {n j:Nat}(f:Nat→Rat)(hj:j<n):sig (fun i=>(if i=j then 1 else 0)*f i) n=f j:=by
  induction n with
  | zero=>omega
  | succ n ih =>
    show sig _ n+(if n=j then 1 else 0)*f n=f j
    by_cases e:n=j
    · subst e
      rw[if_pos rfl,sig_zero (fun i hi=>by rw[if_neg oM];grind)];grind
    · rw[if_neg e,ih oM];grind
def dt (n:Nat)(u v:Nat→Rat):Rat:=sig (fun i=>u i*v i) n
theorem dt_comm (n:Nat)(u v:Nat→Rat):dt n u v=dt n v u:=sig_congr (fun i _=>Rat.mul_comm _ _)
theorem dt_lin (n:Nat)(u w v:Nat→Rat)(c:Rat):dt n (fun i=>u i+c*w i) v=dt n u v+c*dt n w v:=by
  unfold dt
  rw[←sig_lin]
  exact sig_congr (fun i _=>by grind)
theorem dt_nn (n:Nat)(v:Nat→Rat):0≤dt n v v:=sig_nn (fun i _=>sq_nn (v i))
theorem dt_congr {n:Nat}{u u' v v':Nat→Rat}(h:∀ i,i<n→u i=u' i)(h2:∀ i,i<n→v i=v' i):dt n u v=dt n u' v':=sig_congr (fun i hi=>by rw[h i hi,h2 i hi])
theorem sig_nn0 {f:Nat→Rat}:∀ {n:Nat},(∀ i,i<n→0≤f i)→sig f n=0→∀ i,i<n→f i=0
  | n+1,h,h0,i,hi=>by
    have h1:=sig_nn (fun i hi=>h i oM:∀ i,i<n→0≤f i)
    have h2:=h n oM
    change sig f n+f n=0 at h0
    have e1:sig f n=0:=by grind
    have e2:f n=0:=by grind
    by_cases e:i=n
    · rw[e];exact e2
    · exact sig_nn0 (fun i hi=>h i oM) e1 i oM
theorem dt_zero {n:Nat}{v:Nat→Rat}:dt n v v=0↔∀ i,i<n→v i=0:=by
  constructor
  · intro h i hi
    have:=sig_nn0 (fun i _=>sq_nn (v i)) h i hi
    rcases Rat.mul_eq_zero.1 this with e|e<;>exact e
  · intro h
    exact sig_zero (fun i hi=>by rw[h i hi];grind)
def rest_ (v:Nat→Nat→Rat)(n j:Nat):Nat→Nat→Rat
  | 0=>fun i=>if i=j then 1 else 0
  | m+1=>fun i=>rest_ v n j m i+(-(v m j/dt n (v m) (v m)))*v m i
section
variable {v:Nat→Nat→Rat} {n m:Nat} (ho:∀ i,i<m→∀ k,k<i→dt n (v i) (v k)=0) (hz:∀ i,i<m→dt n (v i) (v i)≠0)
include ho hz
omit hz in
theorem rest_dt {j:Nat}(hj:j<n):∀ k,k≤m→∀ i,k≤i→i<m→dt n (rest_ v n j k) (v i)=v i j
  | 0,_,i,_,hi=>sig_pick (v i) hj
  | k+1,hk,i,hki,hi=>by
    show dt n (fun i=>rest_ v n j k i+(-(v k j/dt n (v k) (v k)))*v k i) (v i)=_
    rw[dt_lin,rest_dt hj k oM i oM hi,dt_comm n (v k) (v i),ho i hi k oM];grind
theorem rest_sq {j:Nat}(hj:j<n):∀ k,k≤m→dt n (rest_ v n j k) (rest_ v n j k)=1-sig (fun i=>v i j*v i j/dt n (v i) (v i)) k
  | 0,_=>by
    show sig (fun i=>(if i=j then 1 else 0)*(if i=j then 1 else 0)) n=1-0
    rw[sig_pick (fun i=>if i=j then 1 else 0) hj,if_pos rfl];grind
  | k+1,hk=>by
    have h1:=rest_sq hj k oM
    have h2:=rest_dt ho hj k oM k (Nat.le_refl _) oM
    have h3:=hz k oM
    show dt n (fun i=>rest_ v n j k i+(-(v k j/dt n (v k) (v k)))*v k i) (fun i=>rest_ v n j k i+(-(v k j/dt n (v k) (v k)))*v k i)=1-(sig _ k+v k j*v k j/dt n (v k) (v k))
    have e1:dt n (rest_ v n j k) (fun i=>rest_ v n j k i+(-(v k j/dt n (v k) (v k)))*v k i)=dt n (rest_ v n j k) (rest_ v n j k)+(-(v k j/dt n (v k) (v k)))*v k j:=by rw[dt_comm,dt_lin,dt_comm n (v k) (rest_ v n j k),h2]
    have e2:dt n (v k) (fun i=>rest_ v n j k i+(-(v k j/dt n (v k) (v k)))*v k i)=v k j+(-(v k j/dt n (v k) (v k)))*dt n (v k) (v k):=by rw[dt_comm,dt_lin,h2]
    rw[dt_lin,e1,e2,h1]
    grind
theorem orth_le:m≤n:=by
  have h1:∀ j,j<n→sig (fun i=>v i j*v i j/dt n (v i) (v i)) m≤1:=fun j hj=>by
    have h2:=rest_sq ho hz hj m (Nat.le_refl _)
    have h3:=dt_nn n (rest_ v n j m)
    rw[h2] at h3
    grind
  have h2:=sig_le (n:=n) (g:=fun _=>1) h1
  rw[sig_one,←sig_swap (fun i j=>v i j*v i j/dt n (v i) (v i)) n m] at h2
  rw[sig_congr (g:=fun _=>1) (fun i hi=>?_),sig_one] at h2
  · rw[←Rat.intCast_natCast,←Rat.intCast_natCast] at h2
    have h3:((m:Int):Rat)≤((n:Int):Rat):=h2
    have:=Rat.intCast_le_intCast.1 h3
    omega
  · have h3:=hz i hi
    rw[sig_congr (g:=fun j=>(1/dt n (v i) (v i))*(v i j*v i j)) (fun j _=>by grind),sig_mul]
    show 1/dt n (v i) (v i)*dt n (v i) (v i)=1
    grind
end
def mv (n:Nat)(A:Nat→Nat→Rat)(x:Nat→Rat):Nat→Rat:=fun i=>sig (fun j=>A i j*x j) n
theorem mv_lin (n:Nat)(A:Nat→Nat→Rat)(u w:Nat→Rat)(c:Rat)(i:Nat):mv n A (fun j=>u j+c*w j) i=mv n A u i+c*mv n A w i:=by
  unfold mv
  rw[←sig_lin]
  exact sig_congr (fun j _=>by grind)
theorem mv_sym {n:Nat}{A:Nat→Nat→Rat}(hA:∀ i,i<n→∀ j,j<n→A i j=A j i)(u v:Nat→Rat):dt n u (mv n A v)=dt n v (mv n A u):=by
  unfold dt mv
  rw[sig_congr (g:=fun i=>sig (fun j=>u i*(A i j*v j)) n) (fun i _=>(sig_mul _ _ _).symm),sig_swap,
    sig_congr (f:=fun i=>v i*sig (fun j=>A i j*u j) n) (g:=fun i=>sig (fun j=>v i*(A i j*u j)) n) (fun i _=>(sig_mul _ _ _).symm)]
  exact sig_congr (fun j hj=>sig_congr (fun i hi=>by rw[hA i hi j hj];grind))
structure Cst where
  x:Nat→Rat
  r:Nat→Rat
  w:Nat→Rat
section
variable (n:Nat) (A:Nat→Nat→Rat) (b:Nat→Rat)
def cgK (s:Cst):Rat:=dt n s.r s.r/dt n s.w (mv n A s.w)
def cgX (s:Cst):Nat→Rat:=fun i=>s.x i+s.w i*cgK n A s
def cgR (x:Nat→Rat):Nat→Rat:=fun i=>b i+mv n A x i*((-1:Int):Rat)
def cgN (s:Cst):Cst:=⟨cgX n A s,cgR n A b (cgX n A s),fun i=>cgR n A b (cgX n A s) i+s.w i*(dt n (cgR n A b (cgX n A s)) (cgR n A b (cgX n A s))/dt n s.r s.r)⟩
def cg (x:Nat→Rat):Nat→Cst
  | 0=>⟨x,cgR n A b x,cgR n A b x⟩
  | t+1=>cgN n A b (cg x t)
end
section
variable {n:Nat} {A:Nat→Nat→Rat} {b x:Nat→Rat}
theorem cg_r (t:Nat):(cg n A b x t).r=cgR n A b (cg n A b x t).x:=by cases t<;>rfl
theorem cg_rec (t i:Nat):(cg n A b x (t+1)).r i=(cg n A b x t).r i+(-cgK n A (cg n A b x t))*mv n A (cg n A b x t).w i:=by
  rw[cg_r (t+1),cg_r t]
  show b i+mv n A (fun j=>(cg n A b x t).x j+(cg n A b x t).w j*cgK n A (cg n A b x t)) i*((-1:Int):Rat)=_
  have e:mv n A (fun j=>(cg n A b x t).x j+(cg n A b x t).w j*cgK n A (cg n A b x t)) i=mv n A (cg n A b x t).x i+cgK n A (cg n A b x t)*mv n A (cg n A b x t).w i:=by
    rw[←mv_lin];unfold mv;exact sig_congr (fun j _=>by grind)
  rw[e]
  unfold cgR
  rw[show ((-1:Int):Rat) = -1 from rfl]
  grind
def Goes (n:Nat)(A:Nat→Nat→Rat)(b x:Nat→Rat)(t:Nat):Prop:=dt n (cg n A b x t).r (cg n A b x t).r≠0∧dt n (cg n A b x t).w (mv n A (cg n A b x t).w)≠0
structure Orth (n:Nat) (A:Nat→Nat→Rat) (b x:Nat→Rat) (t:Nat):Prop where
  rr:∀ j,j≤t→∀ i,i<j→dt n (cg n A b x j).r (cg n A b x i).r=0
  ww:∀ j,j≤t→∀ i,i<j→dt n (cg n A b x j).w (mv n A (cg n A b x i).w)=0
  rw_:∀ j,j≤t→∀ i,i<j→dt n (cg n A b x j).r (cg n A b x i).w=0
  own:∀ j,j≤t→dt n (cg n A b x j).r (cg n A b x j).w=dt n (cg n A b x j).r (cg n A b x j).r
theorem cg_w (t i:Nat):(cg n A b x (t+1)).w i=(cg n A b x (t+1)).r i+(dt n (cg n A b x (t+1)).r (cg n A b x (t+1)).r/dt n (cg n A b x t).r (cg n A b x t).r)*(cg n A b x t).w i:=by
  show (cg n A b x (t+1)).r i+(cg n A b x t).w i*_=_
  rw[Rat.mul_comm];rfl
theorem orth_all (hA:∀ i,i<n→∀ j,j<n→A i j=A j i):∀ t,(∀ i,i<t→Goes n A b x i)→Orth n A b x t
  | 0,_=>⟨fun j hj i hi=>by omega,fun j hj i hi=>by omega,fun j hj i hi=>by omega,fun j hj=>by
      obtain rfl:j=0:=by omega
      rfl⟩
  | t + 1,hg=>by
    have O:=orth_all hA t (fun i hi=>hg i oM)
    obtain ⟨g1,g2⟩:=hg t oM
    obtain ⟨r,hr⟩:∃ r,r=(cg n A b x (t+1)).r:=⟨_,rfl⟩
    obtain ⟨k,hk⟩:∃ k,k=cgK n A (cg n A b x t):=⟨_,rfl⟩
    have hkf:k*dt n (cg n A b x t).w (mv n A (cg n A b x t).w)=dt n (cg n A b x t).r (cg n A b x t).r:=by rw[hk];unfold cgK;grind
    have e1:∀ v,dt n r v=dt n (cg n A b x t).r v+(-k)*dt n (mv n A (cg n A b x t).w) v:=fun v=>by
      rw[←dt_lin,hr,hk];exact dt_congr (fun i _=>cg_rec t i) (fun _ _=>rfl)
    have h3:∀ i,i≤t→dt n r (cg n A b x i).w=0:=fun i hi=>by
      rw[e1,dt_comm n (mv n A _),mv_sym hA]
      by_cases e:i=t
      · subst e
        rw[O.own i (Nat.le_refl _)];grind
      · rw[O.rw_ t (Nat.le_refl _) i oM,O.ww t (Nat.le_refl _) i oM];grind
    have h1:∀ i,i≤t→dt n r (cg n A b x i).r=0:=fun i hi=>by
      cases i with
      | zero=>exact h3 0 hi
      | succ i =>
        have e2:dt n r (cg n A b x (i+1)).r=dt n r (cg n A b x (i+1)).w+(-(dt n (cg n A b x (i+1)).r (cg n A b x (i+1)).r/dt n (cg n A b x i).r (cg n A b x i).r))*dt n r (cg n A b x i).w:=by
          rw[dt_comm n r,dt_comm n r (cg n A b x (i+1)).w,dt_comm n r (cg n A b x i).w,←dt_lin]
          exact dt_congr (fun j _=>by rw[cg_w];grind) (fun _ _=>rfl)
        rw[e2,h3 (i+1) hi,h3 i oM];grind
    have hA_:∀ i,i≤t→cgK n A (cg n A b x i)*dt n r (mv n A (cg n A b x i).w)=dt n r (cg n A b x i).r+(-1)*dt n r (cg n A b x (i+1)).r:=fun i _=>by
      have e3:dt n (cg n A b x (i+1)).r r=dt n (cg n A b x i).r r+(-cgK n A (cg n A b x i))*dt n (mv n A (cg n A b x i).w) r:=by
        rw[←dt_lin];exact dt_congr (fun j _=>cg_rec i j) (fun _ _=>rfl)
      rw[dt_comm n r (cg n A b x (i+1)).r,e3,dt_comm n r (cg n A b x i).r,dt_comm n r (mv n A _)];grind
    have h2:∀ i,i≤t→dt n (cg n A b x (t+1)).w (mv n A (cg n A b x i).w)=0:=fun i hi=>by
      obtain ⟨q1,q2⟩:=hg i oM
      have hki:cgK n A (cg n A b x i)≠0:=by unfold cgK;grind
      have e4:dt n (cg n A b x (t+1)).w (mv n A (cg n A b x i).w)=dt n r (mv n A (cg n A b x i).w)+(dt n r r/dt n (cg n A b x t).r (cg n A b x t).r)*dt n (cg n A b x t).w (mv n A (cg n A b x i).w):=by
        rw[←dt_lin,hr];exact dt_congr (fun j _=>cg_w t j) (fun _ _=>rfl)
      have e5:=hA_ i hi
      rw[h1 i hi] at e5
      rw[e4]
      by_cases e:i=t
      · subst e
        rw[←hk] at e5
        rw[←hr] at e5
        have hk0:k≠0:=by rw[hk];exact hki
        have e6:dt n r (mv n A (cg n A b x i).w) = -(dt n r r)/k:=by grind
        have e7:dt n (cg n A b x i).w (mv n A (cg n A b x i).w)=dt n (cg n A b x i).r (cg n A b x i).r/k:=by grind
        rw[e6,e7];grind
      · rw[O.ww t (Nat.le_refl _) i oM]
        rw[h1 (i+1) oM] at e5
        have e6:dt n r (mv n A (cg n A b x i).w)=0:=by grind
        rw[e6];grind
    refine ⟨fun j hj i hi=>?_,fun j hj i hi=>?_,fun j hj i hi=>?_,fun j hj=>?_⟩
    · by_cases e:j≤t
      · exact O.rr j e i hi
      · obtain rfl:j=t+1:=by omega
        rw[←hr];exact h1 i oM
    · by_cases e:j≤t
      · exact O.ww j e i hi
      · obtain rfl:j=t+1:=by omega
        exact h2 i oM
    · by_cases e:j≤t
      · exact O.rw_ j e i hi
      · obtain rfl:j=t+1:=by omega
        rw[←hr];exact h3 i oM
    · by_cases e:j≤t
      · exact O.own j e
      · obtain rfl:j=t+1:=by omega
        have e8:dt n (cg n A b x (t+1)).r (cg n A b x (t+1)).w=dt n r r+(dt n r r/dt n (cg n A b x t).r (cg n A b x t).r)*dt n (cg n A b x t).w r:=by
          rw[←dt_lin,dt_comm,hr];exact dt_congr (fun j _=>cg_w t j) (fun _ _=>rfl)
        rw[e8,dt_comm n (cg n A b x t).w r,h3 t (Nat.le_refl _),←hr];grind
theorem cg_ends (hA:∀ i,i<n→∀ j,j<n→A i j=A j i){t:Nat}(hg:∀ i,i<t→Goes n A b x i):t≤n:=by
  have O:=orth_all hA t hg
  exact orth_le (v:=fun i=>(cg n A b x i).r) (m:=t) (fun i hi k hk=>O.rr i oM k hk) (fun i hi=>(hg i hi).1)
end
def SD (e:Nat)(q:Rat):Prop:=∃ (N:Int) (D:Nat),0<D∧D≤2^e∧N.natAbs≤2^e∧q*((D:Nat):Rat)=(N:Rat)
def CD (n e:Nat)(v:Nat→Rat):Prop:=∃ D:Nat,0<D∧D≤2^e∧∀ i,i<n→∃ N:Int,N.natAbs≤2^e∧v i*((D:Nat):Rat)=(N:Rat)
def MD (n e:Nat)(A:Nat→Nat→Rat):Prop:=∃ D:Nat,0<D∧D≤2^e∧∀ i,i<n→∀ j,j<n→∃ N:Int,N.natAbs≤2^e∧A i j*((D:Nat):Rat)=(N:Rat)
theorem pow_up {a e f:Nat}(h:a≤2^e)(hf:e≤f):a≤2^f:=Nat.le_trans h (Nat.pow_le_pow_right kD hf)
theorem SD.mono {e f:Nat}{q:Rat}(h:SD e q)(hf:e≤f):SD f q:=by
  obtain ⟨N,D,h0,h1,h2,h3⟩:=h
  exact ⟨N,D,h0,pow_up h1 hf,pow_up h2 hf,h3⟩
theorem CD.mono {n e f:Nat}{v:Nat→Rat}(h:CD n e v)(hf:e≤f):CD n f v:=by
  obtain ⟨D,h0,h1,h2⟩:=h
  exact ⟨D,h0,pow_up h1 hf,fun i hi=>by obtain ⟨N,a,b⟩:=h2 i hi;exact ⟨N,pow_up a hf,b⟩⟩
theorem CD.at_ {n e:Nat}{v:Nat→Rat}(h:CD n e v){i:Nat}(hi:i<n):SD e (v i):=by
  obtain ⟨D,h0,h1,h2⟩:=h
  obtain ⟨N,a,b⟩:=h2 i hi
  exact ⟨N,D,h0,h1,a,b⟩
theorem mul_up {a b e f:Nat}(h:a≤2^e)(h2:b≤2^f):a*b≤2^(e+f):=by rw[Nat.pow_add];exact Nat.mul_le_mul h h2
theorem add_up {a b e:Nat}(h:a≤2^e)(h2:b≤2^e):a+b≤2^(e+1):=by rw[Nat.pow_succ];omega
theorem nz_cast {D:Nat}(h:0<D):((D:Nat):Rat)≠0:=by simp;omega
theorem SD.lq {e k:Nat}{q:Rat}(h:SD e q)(hk:e<64*k):LQ k q:=by
  obtain ⟨N,D,h0,h1,h2,h3⟩:=h
  have hq:q=mkRat N D:=by
    have h5:=nz_cast h0
    rw[Rat.mkRat_eq_div,←h3]
    generalize ((D:Nat):Rat)=y at *
    grind
  obtain ⟨p1,p2,_,_⟩:=mkRat_parts N D h0
  have hp:(2:Nat)^e<18446744073709551616^k:=by
    rw[show (18446744073709551616:Nat)=2^64 from rfl,←Nat.pow_mul]
    exact Nat.pow_lt_pow_right kD hk
  constructor
  · refine dig_len_le kD (Nat.lt_of_le_of_lt ?_ hp)
    rw[hq,p1]
    refine Nat.le_trans ?_ h2
    unfold iabs
    exact Int.natAbs_ediv_le_natAbs _ _
  · refine dig_len_le kD (Nat.lt_of_le_of_lt ?_ hp)
    rw[hq,p2]
    exact Nat.le_trans (Nat.div_le_self _ _) h1
theorem SD.div {e f:Nat}{p q:Rat}(hp:SD e p)(hq:SD f q):SD (e+f) (p/q):=by
  obtain ⟨N,D,a0,a1,a2,a3⟩:=hp
  obtain ⟨M,E,b0,b1,b2,b3⟩:=hq
  have hD:=nz_cast a0;have hE:=nz_cast b0
  by_cases h0:M=0
  · subst h0
    have hq0:q=0:=by
      rcases Rat.mul_eq_zero.1 (show q*((E:Nat):Rat)=0 by rw[b3];rfl) with e|e
      · exact e
      · exact absurd e hE
    refine ⟨0,1,by decide,Nat.one_le_two_pow,Nat.zero_le _,?_⟩
    rw[hq0,show p/0=0 by grind];grind
  · have hM:((M:Int):Rat)≠0:=by simpa using h0
    have hMn:0<M.natAbs:=by omega
    refine ⟨N*(E:Nat)*M.sign,D*M.natAbs,Nat.mul_pos a0 hMn,mul_up a1 b2,?_,?_⟩
    · rw[Int.natAbs_mul,Int.natAbs_mul,Int.natAbs_natCast,Int.natAbs_sign,if_neg h0,Nat.mul_one];exact mul_up a2 b1
    · have hs:((M.natAbs:Nat):Rat)=((M.sign:Int):Rat)*(M:Rat):=by
        have h9:((M.natAbs:Nat):Int)=M.sign*M:=by
          rcases Int.lt_trichotomy M 0 with h|h|h
          · rw[Int.sign_eq_neg_one_of_neg h];omega
          · exact absurd h h0
          · rw[Int.sign_eq_one_of_pos h];omega
        rw[←Rat.intCast_natCast,←Rat.intCast_mul,h9]
      have hqn:q≠0:=fun e=>by rw[e] at b3;exact hM (by grind)
      have e1:p/q*q=p:=by grind
      rw[Rat.natCast_mul,hs,Rat.intCast_mul,Rat.intCast_mul,Rat.intCast_natCast,←a3,←b3]
      grind
theorem sum_int {f:Nat→Rat}{D e:Nat}:∀ n,(∀ i,i<n→∃ N:Int,N.natAbs≤2^e∧f i*((D:Nat):Rat)=(N:Rat))→∃ N:Int,N.natAbs≤n*2^e∧sig f n*((D:Nat):Rat)=(N:Rat)
  | 0,_=>⟨0,Nat.zero_le _,by show (0:Rat)*_=0;grind⟩
  | n + 1,h=>by
    obtain ⟨N,a,b⟩:=sum_int n (fun i hi=>h i oM)
    obtain ⟨M,c,d⟩:=h n oM
    refine ⟨N+M,?_,?_⟩
    · have:=Int.natAbs_add_le N M
      rw[Nat.succ_mul];omega
    · show (sig f n+f n)*_=_
      rw[Rat.intCast_add,←b,←d];grind
section
variable {n:Nat} (hn:n≤4)
include hn
theorem four_up {x e:Nat}(h:x≤n*2^e):x≤2^(e+2):=by
  have:=Nat.mul_le_mul_right (2^e) hn
  rw[Nat.pow_add];omega
theorem CD.dot {e f:Nat}{u v:Nat→Rat}(hu:CD n e u)(hv:CD n f v):SD (e+f+2) (dt n u v):=by
  obtain ⟨D,a0,a1,a2⟩:=hu
  obtain ⟨E,b0,b1,b2⟩:=hv
  obtain ⟨N,c1,c2⟩:=sum_int (f:=fun i=>u i*v i) (D:=D*E) (e:=e+f) n (fun i hi=>by
    obtain ⟨N,p,q⟩:=a2 i hi
    obtain ⟨M,r,s⟩:=b2 i hi
    refine ⟨N*M,by rw[Int.natAbs_mul];exact mul_up p r,?_⟩
    rw[Rat.intCast_mul,←q,←s,Rat.natCast_mul];grind)
  exact ⟨N,D*E,Nat.mul_pos a0 b0,pow_up (mul_up a1 b1) oM,four_up hn c1,c2⟩
theorem MD.app {e f:Nat}{A:Nat→Nat→Rat}{v:Nat→Rat}(hA:MD n e A)(hv:CD n f v):CD n (e+f+2) (mv n A v):=by
  obtain ⟨D,a0,a1,a2⟩:=hA
  obtain ⟨E,b0,b1,b2⟩:=hv
  refine ⟨D*E,Nat.mul_pos a0 b0,pow_up (mul_up a1 b1) oM,fun i hi=>?_⟩
  obtain ⟨N,c1,c2⟩:=sum_int (f:=fun j=>A i j*v j) (D:=D*E) (e:=e+f) n (fun j hj=>by
    obtain ⟨N,p,q⟩:=a2 i hi j hj
    obtain ⟨M,r,s⟩:=b2 j hj
    refine ⟨N*M,by rw[Int.natAbs_mul];exact mul_up p r,?_⟩
    rw[Rat.intCast_mul,←q,←s,Rat.natCast_mul];grind)
  exact ⟨N,four_up hn c1,c2⟩
omit hn
theorem CD.lin {e f g:Nat}{u v:Nat→Rat}{k:Rat}(hu:CD n e u)(hk:SD f k)(hv:CD n g v):CD n (e+f+g+1) (fun i=>u i+v i*k):=by
  obtain ⟨D,a0,a1,a2⟩:=hu
  obtain ⟨M,E,b0,b1,b2,b3⟩:=hk
  obtain ⟨F,c0,c1,c2⟩:=hv
  refine ⟨D*E*F,Nat.mul_pos (Nat.mul_pos a0 b0) c0,pow_up (mul_up (mul_up a1 b1) c1) oM,fun i hi=>?_⟩
  obtain ⟨N,p,q⟩:=a2 i hi
  obtain ⟨L,r,s⟩:=c2 i hi
  refine ⟨N*(E:Nat)*(F:Nat)+L*M*(D:Nat),?_,?_⟩
  · refine Nat.le_trans (Int.natAbs_add_le _ _) ?_
    rw[Int.natAbs_mul,Int.natAbs_mul,Int.natAbs_mul,Int.natAbs_mul,Int.natAbs_natCast,Int.natAbs_natCast,Int.natAbs_natCast]
    refine add_up (mul_up (mul_up p b1) c1) ?_
    have:=mul_up (mul_up r b2) a1
    rw[show g+f+e=e+f+g by omega] at this
    exact this
  · rw[Rat.intCast_add,Rat.intCast_mul,Rat.intCast_mul,Rat.intCast_mul,Rat.intCast_mul,Rat.intCast_natCast,Rat.intCast_natCast,Rat.intCast_natCast,←q,←s,←b3,Rat.natCast_mul,Rat.natCast_mul]
    grind
end
theorem SD.one:SD 0 ((-1:Int):Rat):=⟨-1,1,by decide,by decide,by decide,by rw[show ((-1:Int):Rat) = -1 from rfl];grind⟩
structure Bit where
  x:Nat
  r:Nat
  w:Nat
def bitN (a c:Nat)(s:Bit):Bit:=⟨s.x+(2*s.r+2*s.w+a+6)+s.w+1,3*s.r+3*s.w+2*a+9,3*(3*s.r+3*s.w+2*a+9)+2*s.r+s.w+5⟩
def bits (a c x:Nat):Nat→Bit
  | 0=>⟨x,c+a+x+3,c+a+x+3⟩
  | t+1=>bitN a c (bits a c x t)
theorem cg_bits {n:Nat}(hn:n≤4){a c e:Nat}{A:Nat→Nat→Rat}{b x:Nat→Rat}(hA:MD n a A)(hb:CD n c b)(hx:CD n e x):∀ t,CD n (bits a c e t).x (cg n A b x t).x∧CD n (bits a c e t).r (cg n A b x t).r∧CD n (bits a c e t).w (cg n A b x t).w
  | 0=>by
    have h1:=(hb.lin SD.one (hA.app hn hx)).mono (f:=c+a+e+3) oM
    exact ⟨hx,h1,h1⟩
  | t + 1=>by
    obtain ⟨h1,h2,h3⟩:=cg_bits hn hA hb hx t
    obtain ⟨s,hs⟩:∃ s,s=bits a c e t:=⟨_,rfl⟩
    rw[←hs] at h1 h2 h3
    have hy:=hA.app hn h3
    have hk:SD (2*s.r+2*s.w+a+6) (cgK n A (cg n A b x t)):=((h2.dot hn h2).div (h3.dot hn hy)).mono oM
    have hnk:SD (2*s.r+2*s.w+a+6) (-cgK n A (cg n A b x t)):=by
      obtain ⟨N,D,d0,d1,d2,d3⟩:=hk
      exact ⟨-N,D,d0,d1,by rw[Int.natAbs_neg];exact d2,by rw[Rat.intCast_neg,←d3];grind⟩
    have hx':CD n (s.x+(2*s.r+2*s.w+a+6)+s.w+1) (cg n A b x (t+1)).x:=h1.lin hk h3
    have hr':CD n (3*s.r+3*s.w+2*a+9) (cg n A b x (t+1)).r:=by
      have:=(h2.lin hnk hy).mono (f:=3*s.r+3*s.w+2*a+9) oM
      obtain ⟨D,d0,d1,d2⟩:=this
      refine ⟨D,d0,d1,fun i hi=>?_⟩
      obtain ⟨N,p,q⟩:=d2 i hi
      refine ⟨N,p,?_⟩
      rw[←q,cg_rec];grind
    have hq:=(hr'.dot hn hr').div (h2.dot hn h2)
    have hw':CD n (3*(3*s.r+3*s.w+2*a+9)+2*s.r+s.w+5) (cg n A b x (t+1)).w:=(hr'.lin hq h3).mono oM
    show CD n (bitN a c (bits a c e t)).x _∧CD n (bitN a c (bits a c e t)).r _∧CD n (bitN a c (bits a c e t)).w _
    rw[←hs]
    exact ⟨hx',hr',hw'⟩
structure CgB (n:Nat) (A:Nat→Nat→Rat) (b x:Nat→Rat) (t:Nat):Prop where
  xx:∀ i,i<n→LQ 100000 ((cg n A b x t).x i)
  r:∀ i,i<n→LQ 100000 ((cg n A b x t).r i)
  w:∀ i,i<n→LQ 100000 ((cg n A b x t).w i)
  ax:∀ i,i<n→LQ 100000 (mv n A (cg n A b x t).x i)
  aw:∀ i,i<n→LQ 100000 (mv n A (cg n A b x t).w i)
  rr:LQ 100000 (dt n (cg n A b x t).r (cg n A b x t).r)
  ww:LQ 100000 (dt n (cg n A b x t).w (mv n A (cg n A b x t).w))
  k:LQ 100000 (cgK n A (cg n A b x t))
theorem bits_le {t:Nat}(ht:t≤4):(bits 18 8 8 t).x≤2200000∧(bits 18 8 8 t).r≤700000∧(bits 18 8 8 t).w≤2200000:=by
  rcases (by omega:t=0∨t=1∨t=2∨t=3∨t=4) with rfl|rfl|rfl|rfl|rfl<;>decide
theorem cg_B {n:Nat}(hn:n≤4){A:Nat→Nat→Rat}{b x:Nat→Rat}(hA:MD n 18 A)(hb:CD n 8 b)(hx:CD n 8 x){t:Nat}(ht:t≤4):CgB n A b x t:=by
  obtain ⟨h1,h2,h3⟩:=cg_bits hn hA hb hx t
  obtain ⟨b1,b2,b3⟩:=bits_le ht
  have c1:=h1.mono b1;have c2:=h2.mono b2;have c3:=h3.mono b3
  have a1:=hA.app hn c1;have a3:=hA.app hn c3
  exact ⟨fun i hi=>(c1.at_ hi).lq kD,fun i hi=>(c2.at_ hi).lq kD,fun i hi=>(c3.at_ hi).lq kD,fun i hi=>(a1.at_ hi).lq kD,fun i hi=>(a3.at_ hi).lq kD,(c2.dot hn c2).lq kD,(c3.dot hn a3).lq kD,((c2.dot hn c2).div (c3.dot hn a3)).lq kD⟩
def CjEnd (n:Nat)(A:Nat→Nat→Rat)(b x:Nat→Rat)(t:Nat)(e:Int):Prop :=
  (∀ i,i<t→dt n (cg n A b x i).r (cg n A b x i).r≠0∧0<(dt n (cg n A b x i).w (mv n A (cg n A b x i).w)).num) ∧
    (e=0∧dt n (cg n A b x t).r (cg n A b x t).r=0∨e=9∧dt n (cg n A b x t).r (cg n A b x t).r≠0∧¬0<(dt n (cg n A b x t).w (mv n A (cg n A b x t).w)).num)
theorem CjEnd.uniq {n:Nat}{A:Nat→Nat→Rat}{b x:Nat→Rat}{t t':Nat}{e e':Int}(h:CjEnd n A b x t e)(h':CjEnd n A b x t' e'):t=t'∧e=e':=by
  have key:∀ {t t':Nat} {e e':Int},CjEnd n A b x t e→CjEnd n A b x t' e'→¬t<t':=fun {t t' e e'} h h' hlt=>by
    obtain ⟨g1,g2⟩:=h'.1 t hlt
    rcases h.2 with ⟨_,q⟩|⟨_,_,q⟩
    · exact g1 q
    · exact q g2
  have ht:t=t':=by
    have:=key h h';have:=key h' h;omega
  subst ht
  refine ⟨rfl,?_⟩
  rcases h.2 with ⟨q1,q2⟩|⟨q1,q2,_⟩<;>rcases h'.2 with ⟨p1,p2⟩|⟨p1,p2,_⟩
  · rw[q1,p1]
  · exact absurd q2 p2
  · exact absurd p2 q2
  · rw[q1,p1]
theorem goes_of {n:Nat}{A:Nat→Nat→Rat}{b x:Nat→Rat}{t:Nat}(h:dt n (cg n A b x t).r (cg n A b x t).r≠0∧0<(dt n (cg n A b x t).w (mv n A (cg n A b x t).w)).num):Goes n A b x t:=⟨h.1,fun e=>by have:=h.2;rw[e] at this;exact absurd this kD⟩
theorem sl_len {A:Option Addr}{c a b:Nat}(h:a=b):Value.slice A a c=.slice A b c:=by rw[h]
theorem tup_len {A:Option Addr}{c a b:Nat}{x:Value}(h:a=b):Value.tuple #[.slice A a c,x]=.tuple #[.slice A b c,x]:=by rw[h]
theorem cmpR_self (a:Rat):cmpR a a=0:=by unfold cmpR cmpI;rw[if_neg oM,if_neg oM]
theorem rep_zero {n:Nat}:∀ j,(List.replicate n (0:Rat)).getD j 0=0:=fun j=>by
  rw[List.getD_eq_getElem?_getD,List.getElem?_replicate];split<;>rfl
theorem getD_set_ {α:Type}{l:List α}{n i:Nat}{d x:α}(h:n<l.length):(l.set n x).getD i d=if i=n then x else l.getD i d:=by
  split
  · rename_i e;subst e;simp[h]
  · rename_i e;rw[List.getD_eq_getElem?_getD,List.getElem?_set_ne (Ne.symm e),←List.getD_eq_getElem?_getD]
theorem RQ.eq {h:Hp}{v:Value}{p q:Rat}(x:RQ h v p)(e:p=q):RQ h v q:=by subst e;exact x
def vec (n:Nat)(f:Nat→Rat):List Rat:=(List.range n).map f
theorem vec_len (n:Nat)(f:Nat→Rat):(vec n f).length=n:=by simp[vec]
theorem vec_get {n i:Nat}(f:Nat→Rat)(h:i<n):(vec n f).getD i 0=f i:=by simp[vec,h]
theorem vec_eq {l:List Rat}{n:Nat}{f:Nat→Rat}(hl:l.length=n)(h:∀ i,i<n→l.getD i 0=f i):l=vec n f:=by
  subst hl
  refine List.ext_getElem (by simp[vec]) (fun i h1 h2=>?_)
  have:=h i h1
  simp only[vec,List.getElem_map,List.getElem_range]
  rw[←this];simp[h1]
theorem vec_congr {n:Nat}{f g:Nat→Rat}(h:∀ i,i<n→f i=g i):vec n f=vec n g:=vec_eq (vec_len n f) (fun i hi=>by rw[vec_get f hi];exact h i hi)
theorem vec_of {L:List Rat}{n:Nat}{f:Nat→Rat}(hl:L.length=n)(h:∀ j,L.getD j 0=if j<n then f j else 0):L=vec n f:=vec_eq hl (fun i hi=>by rw[h i,if_pos hi])
theorem vec_set {L:List Rat}{n i:Nat}{f:Nat→Rat}{x:Rat}(hl:L.length=n)(h:∀ j,L.getD j 0=if j<i then f j else 0)(hi:i<n)(hx:x=f i):∀ j,(L.set i x).getD j 0=if j<i+1 then f j else 0:=fun j=>by
  rw[getD_set_ oM]
  by_cases e:j=i
  · subst e;rw[if_pos rfl,if_pos oM];exact hx
  · rw[if_neg e,h j]
    by_cases e2:j<i
    · rw[if_pos e2,if_pos oM]
    · rw[if_neg e2,if_neg oM]
def mA (W:List (List Rat)):Nat→Nat→Rat:=fun i j=>(W.getD i []).getD j 0
theorem dot_dt {a b:List Rat}{u v:Nat→Rat}:∀ n,(∀ i,i<n→a.getD i 0=u i)→(∀ i,i<n→b.getD i 0=v i)→dotq a b n=dt n u v
  | 0,_,_=>rfl
  | n+1,h1,h2=>by
    show dotq a b n+a.getD n 0*b.getD n 0=dt n u v+u n*v n
    rw[dot_dt n (fun i hi=>h1 i oM) (fun i hi=>h2 i oM),h1 n oM,h2 n oM]
def SqP (W:List (List Rat)):Prop:=RightP W∧W.length=(W.getD 0 []).length
noncomputable def sqq (W:List (List Rat)):Bool:=@decide (SqP W) (Classical.propDecidable _)
def SymP (W:List (List Rat)):Prop:=SqP W∧∀ i,i<W.length→∀ k,k<i→(W.getD i []).getD k 0=(W.getD k []).getD i 0
noncomputable def symq (W:List (List Rat)):Bool:=@decide (SymP W) (Classical.propDecidable _)
theorem sq_f {W:List (List Rat)}(h:¬SqP W):sqq W=false:=@decide_eq_false _ (Classical.propDecidable _) h
theorem sq_t {W:List (List Rat)}(h:SqP W):sqq W=true:=@decide_eq_true _ (Classical.propDecidable _) h
theorem sq_is {W:List (List Rat)}(h:sqq W=true):SqP W:=@oT _ (Classical.propDecidable _) h
theorem sq_not {W:List (List Rat)}(h:sqq W=false):¬SqP W:=@oF _ (Classical.propDecidable _) h
theorem sym_f {W:List (List Rat)}(h:¬SymP W):symq W=false:=@decide_eq_false _ (Classical.propDecidable _) h
theorem sym_t {W:List (List Rat)}(h:SymP W):symq W=true:=@decide_eq_true _ (Classical.propDecidable _) h
theorem SymP.all {W:List (List Rat)}(h:SymP W):∀ i,i<W.length→∀ j,j<W.length→mA W i j=mA W j i:=fun i hi j hj=>by
  rcases Nat.lt_trichotomy i j with e|e|e
  · exact (h.2 j hj i e).symm
  · rw[e]
  · exact h.2 i hi j e
theorem cj_cmp {a b:Rat}(h:a=b):cmpR a b=0:=by rw[h];exact cmpR_self b
theorem cj_cmp0 {a b:Rat}(h:cmpR a b=0):a=b:=by
  unfold cmpR cmpI at h
  have ha:=a.den_pos;have hb:=b.den_pos
  split at h
  · omega
  · split at h
    · omega
    · have e:a.num*(b.den:Int)=b.num*(a.den:Int):=by omega
      rw[←Rat.mkRat_self a,←Rat.mkRat_self b]
      exact (Rat.mkRat_eq_iff oM oM).2 e
theorem mRightT (A:Option Addr)(cap:Nat)(us:List Value)(W:List (List Rat))(hl:W.length≤1000000)(hls:∀ i,i<W.length→(W.getD i []).length≤1000000)(hR:RightP W)(w:World)(h:Hp)(g:G w h)(hA:SlO 1 vc undef h A us)(hU:QVs h us W):Calls Tryz.prog 49 #[.slice A us.length cap] w (Ret w h fun v _=>v=.bool true):=by
  have x:=mRightG A cap us W hl hls w h g hA hU
  rw[←rq_t hR] at x
  exact x
theorem lq_sum4 {n a:Nat}(hn:n≤5)(ha:a≤1000001):n*a+a+2≤100000000:=by
  have:=Nat.mul_le_mul_right a hn
  omega
theorem cjDot (a:List Rat)(x:Nat→Rat)(n:Nat)(A:Option Addr)(ca:Nat)(X:Option Addr)(cX:Nat)(hal:a.length=n)(K1 K2:Nat)(hn4:n≤5)(hb:K1+K2≤1000000)(hK1:∀ j,LQ K1 (a.getD j 0))(hK2:∀ i,i<n→LQ K2 (x i))(w:World)(h:Hp)(g:G w h)(hA:SlO 5 qc 0 h A a)(hX:SlO 5 qc 0 h X (vec n x))(tb:Tab h) :
    Calls Tryz.prog 17 #[.slice A a.length ca,.slice X (vec n x).length cX] w (Ret w h fun v _=>v=.tuple #[qv (dt n (fun j=>a.getD j 0) x),.bool true]):=by
  have x_:=fDot A ca a X cX (vec n x) K1 K2 (by rw[vec_len];exact hal) oM (by have:=lq_sum4 (n:=a.length) (a:=K1+K2+1) oM oM;omega) (fun i _=>hK1 i) (fun i hi=>by rw[vec_get x oM];exact hK2 i oM) w h g hA hX tb
  rw[hal,dot_dt n (u:=fun j=>a.getD j 0) (v:=x) (fun i _=>rfl) (fun i hi=>vec_get x hi)] at x_
  rw[hal];exact x_
theorem cjDotV (u v:Nat→Rat)(n:Nat)(A:Option Addr)(ca:Nat)(X:Option Addr)(cX:Nat)(K1 K2:Nat)(hn4:n≤5)(hb:K1+K2≤1000000)(hK1:∀ i,i<n→LQ K1 (u i))(hK2:∀ i,i<n→LQ K2 (v i))(w:World)(h:Hp)(g:G w h)(hA:SlO 5 qc 0 h A (vec n u))(hX:SlO 5 qc 0 h X (vec n v))(tb:Tab h) :
    Calls Tryz.prog 17 #[.slice A (vec n u).length ca,.slice X (vec n v).length cX] w (Ret w h fun r _=>r=.tuple #[qv (dt n u v),.bool true]):=by
  have x_:=fDot A ca (vec n u) X cX (vec n v) K1 K2 (by rw[vec_len,vec_len]) (by rw[vec_len];omega) (by rw[vec_len];have:=lq_sum4 (n:=n) (a:=K1+K2+1) oM oM;omega) (fun i hi=>by rw[vec_len] at hi;rw[vec_get u hi];exact hK1 i hi) (fun i hi=>by rw[vec_len] at hi;rw[vec_get v hi];exact hK2 i hi) w h g hA hX tb
  rw[vec_len n u,dot_dt n (u:=u) (v:=v) (fun i hi=>vec_get u hi) (fun i hi=>vec_get v hi)] at x_
  rw[vec_len n u];exact x_
theorem mSquare (A:Option Addr)(cap:Nat)(us:List Value)(W:List (List Rat))(hl:W.length≤1000)(hls:∀ i,i<W.length→(W.getD i []).length≤1000)(w:World)(h:Hp)(g:G w h)(hA:SlO 1 vc undef h A us)(hU:QVs h us W) :
    Calls Tryz.prog 29 #[.slice A us.length cap] w (Ret w h fun v _=>v=.bool (sqq W)):=by
 have hs:=SS.start g
 replace hs:=((hs.a_SlO hA).add (K:=fun h_=>QVs h_ us W) hU)
 have hlu:=(hs.f.1).len
 refine go Tryz.func29 [(0,.slice A us.length cap)] rfl ?_
 refine cSL (lL hs [.v 2 (.bool false)] (lNS (lL hs [.m 3 0] (lC 4 hs (mRightG A cap us W oM (fun i hi=>by have:=hls i hi;omega) _ _ hs.g (hs.f.2.1) (hs.f.1)) ?_))))
 rintro _ w1 h2 hs rfl
 cases hb3:(rightq W)
 ·
  refine lL hs [.m 5 4] (lG 6 ?_)
  refine lG 7 ?_
  refine lG 8 ?_
  refine lG 9 ?_
  refine lG 10 ?_
  refine lG 11 ?_
  refine lG 12 ?_
  exact lL hs [.v 13 (.bool false),.m 2 13] (lN (CG.ret (hs.ret [] (.bool false) (congrArg Value.bool (sq_f (fun h_=>by first|exact rq_not aM h_.1|(have:=h_.2;omega))).symm))))
 refine lL hs [.m 5 4,.m 6 0,.v 7 (.int .i64 (us.length:Nat)),.m 8 0] ?_
 obtain ⟨hr1,hr2,hr3⟩:=rq_is ‹rightq W=true›
 refine lX 9 A us.length cap 1 0 0 ((hs.f.2.1).ok oM) ?_
 obtain ⟨Aqz,cqz,eqz,hcqz,hRqz⟩:=(hs.f.1).at_ 0 oM
 replace hs:=(hs.a_SlO hRqz)
 refine lHe 10 (us.getD 0 undef) hs ((hs.f.2.2.1).el 0 oM) eqz ?_
 refine lL hs [.v 11 (.int .i64 ((W.getD 0 []).length:Nat))] ?_
 cases hb4:(((us.length:Nat):Int) == (((W.getD 0 []).length:Nat):Int))
 ·
  have phb4:=neOfBeq hb4
  refine lB 12 hb4 ?_
  exact lL hs [.v 13 (.bool false),.m 2 13] (lN (CG.ret (hs.ret [] (.bool false) (congrArg Value.bool (sq_f (fun h_=>by first|exact rq_not aM h_.1|(have:=h_.2;omega))).symm))))
 have phb4:=eq_of_beq hb4
 refine lB 12 hb4 ?_
 exact lL hs [.v 13 (.bool true),.m 2 13] (lN (CG.ret (hs.ret [] (.bool true) (congrArg Value.bool (sq_t ⟨rq_is aM,by omega⟩).symm))))
theorem mSym (A:Option Addr)(cap:Nat)(us:List Value)(W:List (List Rat))(hl:W.length≤1000)(hls:∀ i,i<W.length→(W.getD i []).length≤1000)(hq:∀ i j,LQ 100000000 ((W.getD i []).getD j 0))(w:World)(h:Hp)(g:G w h)(hA:SlO 1 vc undef h A us)(hU:QVs h us W) :
    Calls Tryz.prog 30 #[.slice A us.length cap] w (Ret w h fun v _=>v=.bool (symq W)):=by
 have hs:=SS.start g
 replace hs:=((hs.a_SlO hA).add (K:=fun h_=>QVs h_ us W) hU)
 have hlu:=(hs.f.1).len
 refine go Tryz.func30 [(0,.slice A us.length cap)] rfl ?_
 refine cSL (lL hs [.v 2 (.bool false)] (lN (CG.seq (cSL (lL hs [.m 6 0] (lC 7 hs (mSquare A cap us W hl hls _ _ hs.g (hs.f.2.1) (hs.f.1)) ?_))))))
 rintro _ w1 h2 hs rfl
 cases hb3:(sqq W)
 ·
  exact lL hs [.v 8 (.bool true)] (lN (cIT (cSL (lL hs [.v 2 (.bool false)] (lN (CG.ret (hs.ret [] (.bool false) (congrArg Value.bool (sym_f (fun h_=>sq_not aM h_.1)).symm))))))))
 refine lL hs [.v 8 (.bool false)] (lN (cIF (CG.skipN (CG.seq (cSL (lL hs [.m 9 0,.v 10 (.int .i64 (us.length:Nat)),.v 11 (.int .i64 0)] (lN (CG.block (cTo [(0,.slice A us.length cap),(9,.slice A us.length cap),(10,.int .i64 (us.length:Nat)),(11,.int .i64 0)] ?_)))))))))
 have hS:=sq_is ‹sqq W=true›
 obtain ⟨⟨hr1,hr2,hr3⟩,hr4⟩:=id hS
 refine CG.loop (fun μ_ Γ w_=>∃ (i:Nat) (h_:Hp),μ_=W.length-i∧Γ=[(0,.slice A us.length cap),(9,.slice A us.length cap),(10,.int .i64 (us.length:Nat)),(11,.int .i64 (i:Nat))]∧SS w h w_ h_ [] [] [fun h_=>QVs h_ us W,fun h_=>SlO 1 vc undef h_ A us]∧(i≤W.length)∧(∀ a,a<i→∀ b,b<a→(W.getD a []).getD b 0=(W.getD b []).getD a 0)) _ ⟨0,h2,rfl,rfl,hs.to _ _,Nat.zero_le _,(fun a ha=>absurd ha (Nat.not_lt_zero a))⟩ ?_
 rintro _ _ w4 ⟨i,h5,hm6,rfl,hs,hi,hY⟩
 refine cSL ?_
 cases hb7:(decide (((i:Nat):Int)<((us.length:Nat):Int)))
 ·
  have phb7:=oF hb7
  refine lB 12 hb7 ?_
  refine lN (CG.seq (cIF (CG.exit ?_)))
  show CG _ _ _ _ _ _ _ _
  exact cSL (lL hs [.v 2 (.bool true)] (lN (CG.ret (hs.ret [] (.bool true) (congrArg Value.bool (sym_t ⟨hS,fun a ha b hb=>hY a oM b hb⟩).symm)))))
 have phb7:=oT hb7
 refine lB 12 hb7 ?_
 refine lN (CG.seq (cIT (CG.skipN (CG.seq (CG.block (cSL (lL hs [.m 13 11] (lX 14 A us.length cap 1 (i:Nat) i ((hs.f.2.1).ok oM) ?_))))))))
 obtain ⟨Aqx,cqx,eqx,hcqx,hRqx⟩:=(hs.f.1).at_ i oM
 replace hs:=(hs.a_SlO hRqx)
 refine lHe 15 (us.getD i undef) hs ((hs.f.2.2.1).el i oM) eqx ?_
 refine lL hs [.m 3 13,.m 4 15] (lNS (lL hs [.m 16 3,.v 17 (.int .i64 0)] (lN (CG.block (cTo [(0,.slice A us.length cap),(9,.slice A us.length cap),(10,.int .i64 (us.length:Nat)),(11,.int .i64 (i:Nat)),(3,.int .i64 (i:Nat)),(4,.slice Aqx ((W.getD i []).length) cqx),(16,.int .i64 (i:Nat)),(17,.int .i64 0)] ?_)))))
 refine CG.loop (fun μ_ Γ w_=>∃ (j:Nat) (h_:Hp),μ_=i-j∧Γ=[(0,.slice A us.length cap),(9,.slice A us.length cap),(10,.int .i64 (us.length:Nat)),(11,.int .i64 (i:Nat)),(3,.int .i64 (i:Nat)),(4,.slice Aqx ((W.getD i []).length) cqx),(16,.int .i64 (i:Nat)),(17,.int .i64 (j:Nat))]∧SS w h w_ h_ [] [] [fun h_=>SlO 5 qc 0 h_ Aqx (W.getD i []),fun h_=>QVs h_ us W,fun h_=>SlO 1 vc undef h_ A us]∧(j≤i)∧(∀ b,b<j→(W.getD i []).getD b 0=(W.getD b []).getD i 0)) _ ⟨0,h5,rfl,rfl,hs.to _ _,Nat.zero_le _,(fun b hb=>absurd hb (Nat.not_lt_zero b))⟩ ?_
 rintro _ _ w8 ⟨j,h9,hm10,rfl,hs,hj,hX⟩
 have hwi:=hr3 i
 have hwj:=hr3 j
 refine cSL ?_
 cases hb11:(decide (((j:Nat):Int)<((i:Nat):Int)))
 ·
  have phb11:=oF hb11
  refine lB 18 hb11 ?_
  refine lN (CG.seq (cIF (CG.exit ?_)))
  show CG _ _ _ _ _ _ _ _
  refine CG.listed (lIn 34 ((i:Nat)+1) (i+1) ?_)
  refine lL hs [.m 11 34] (lD ?_)
  intro a_ ka
  have q12:(i+1)≤W.length:=by omega
  have q13:∀ a,a<(i+1)→∀ b,b<a→(W.getD a []).getD b 0=(W.getD b []).getD a 0:=(fun a ha b hb=>by by_cases e_:a=i;(subst e_;exact hX b oM);exact hY a oM b hb)
  replace hs:=hs.tl
  refine ⟨_,_,?_,⟨i+1,h9,rfl,rfl,hs.to _ _,q12,q13⟩,ka.to [(0,.slice A us.length cap),(9,.slice A us.length cap),(10,.int .i64 (us.length:Nat)),(11,.int .i64 ((i+1):Nat))] kR⟩
  omega
 have phb11:=oT hb11
 refine lB 18 hb11 ?_
 refine lN (CG.seq (cIT (CG.skipN (CG.seq (CG.block (cSL (lL hs [.m 19 17,.m 5 19] (lN (CG.seq (cR 13 [] mixed hs al_nil ?_))))))))))
 refine eV 0 20 (.slice Aqx ((W.getD i []).length) cqx) ?_
 refine eV 1 21 (.int .i64 (j:Nat)) ?_
 refine eX 2 22 Aqx ((W.getD i []).length) cqx 5 (j:Nat) j ((hs.f.1).ok oM) ?_
 refine eH 3 23 (qv ((W.getD i []).getD j 0)) hs ((hs.f.1).el j oM) ?_
 refine eV 4 24 (.slice A us.length cap) ?_
 refine eV 5 25 (.int .i64 (j:Nat)) ?_
 refine eX 6 26 A us.length cap 1 (j:Nat) j ((hs.f.2.2.1).ok oM) ?_
 obtain ⟨Aqy,cqy,eqy,hcqy,hRqy⟩:=(hs.f.2.1).at_ j oM
 replace hs:=(hs.a_SlO hRqy)
 refine eHe 7 27 (us.getD j undef) hs ((hs.f.2.2.2.1).el j oM) eqy ?_
 refine eV 8 28 (.int .i64 (i:Nat)) ?_
 refine eX 9 29 Aqy ((W.getD j []).length) cqy 5 (i:Nat) i ((hs.f.1).ok oM) ?_
 refine eH 10 30 (qv ((W.getD j []).getD i 0)) hs ((hs.f.1).el i oM) ?_
 refine eC 11 31 hs (fun _ _ hs=>fCmp ((W.getD i []).getD j 0) ((W.getD j []).getD i 0) (hq i j) (hq j i) _ _ hs.g) ?_
 rintro _ _ _ w14 h15 hs rfl
 cases hb16:((cmpR ((W.getD i []).getD j 0) ((W.getD j []).getD i 0):Int) != (0:Int))
 ·
  have phb16:=eqOfBne hb16
  refine eB 12 32 hb16 ?_
  refine eD0 hs (fun w17 h18 hs=>?_)
  refine tN (cIF (CG.skipN (CG.listed (lIn 33 ((j:Nat)+1) (j+1) ?_))))
  refine lL hs [.m 17 33] (lD ?_)
  intro a_ ka
  have q19:(j+1)≤i:=by omega
  have q20:∀ b,b<(j+1)→(W.getD i []).getD b 0=(W.getD b []).getD i 0:=(fun b hb=>by by_cases e_:b=j;(subst e_;exact cj_cmp0 oM);exact hX b oM)
  replace hs:=hs.tl
  refine ⟨_,_,?_,⟨j+1,h18,rfl,rfl,hs.to _ _,q19,q20⟩,ka.to [(0,.slice A us.length cap),(9,.slice A us.length cap),(10,.int .i64 (us.length:Nat)),(11,.int .i64 (i:Nat)),(3,.int .i64 (i:Nat)),(4,.slice Aqx ((W.getD i []).length) cqx),(16,.int .i64 (i:Nat)),(17,.int .i64 ((j+1):Nat))] kR⟩
  omega
 have phb16:=neOfBne hb16
 refine eB 12 32 hb16 ?_
 refine eD0 hs (fun w21 h22 hs=>?_)
 exact tN (cIT (cSL (lL hs [.v 2 (.bool false)] (lN (CG.ret (hs.ret [] (.bool false) (congrArg Value.bool (sym_f (fun h_=>absurd (h_.2 i oM j oM) (fun e_=>absurd (cj_cmp e_) oM))).symm)))))))
theorem mSymT (A:Option Addr)(cap:Nat)(us:List Value)(W:List (List Rat))(hl:W.length≤1000)(hls:∀ i,i<W.length→(W.getD i []).length≤1000)(hq:∀ i j,LQ 100000000 ((W.getD i []).getD j 0))(hS:SymP W)(w:World)(h:Hp)(g:G w h)(hA:SlO 1 vc undef h A us)(hU:QVs h us W):Calls Tryz.prog 30 #[.slice A us.length cap] w (Ret w h fun v _=>v=.bool true):=by
  have x:=mSym A cap us W hl hls hq w h g hA hU
  rw[sym_t hS] at x
  exact x
theorem mApply (A:Option Addr)(cap:Nat)(us:List Value)(W:List (List Rat))(hl:W.length≤1000)(hls:∀ i,i<W.length→(W.getD i []).length≤1000)(x:Nat→Rat)(n:Nat)(hn4:n≤5)(X:Option Addr)(cX:Nat)(hR:RightP W)(hn:W.length=n)(hn2:(W.getD 0 []).length=n)(K1 K2:Nat)(hK1:∀ i j,LQ K1 ((W.getD i []).getD j 0))(hK2:∀ i,i<n→LQ K2 (x i))(hKb:1≤K1∧1≤K2∧K1+K2≤1000000)(w:World)(h:Hp)(g:G w h)(hA:SlO 1 vc undef h A us)(hU:QVs h us W)(hX:SlO 5 qc 0 h X (vec n x))(tb:Tab h) :
    Calls Tryz.prog 31 #[.slice A us.length cap,.slice X ((vec n x).length) cX] w (Ret w h fun v h1=>∃ A c,v=.tuple #[.slice A (vec n (mv n (mA W) x)).length c,.int .i64 0]∧(vec n (mv n (mA W) x)).length≤c∧SlO 5 qc 0 h1 A (vec n (mv n (mA W) x))):=by
 have hs:=SS.start g
 replace hs:=((((hs.a_SlO hA).add (K:=fun h_=>QVs h_ us W) hU).a_SlO hX).add (K:=fun h_=>Tab h_) tb)
 have hlu:=(hs.f.2.2.1).len
 have hvl:=vec_len n x
 have hr1:=hR.1
 refine go Tryz.func31 [(0,.slice A us.length cap),(1,.slice X ((vec n x).length) cX)] rfl ?_
 refine cSL (lL hs [.v 4 (.slice none 0 0),.v 5 (.int .i64 0)] (lN (CG.seq (cSL (lL hs [.m 9 0] (lC 10 hs (mRightT A cap us W oM (fun i hi=>by have:=hls i hi;omega) hR _ _ hs.g (hs.f.2.2.2.1) (hs.f.2.2.1)) ?_))))))
 rintro _ w1 h2 hs rfl
 refine lL hs [.v 11 (.bool false),.m 12 11,.m 13 0] (lX 14 A us.length cap 1 0 0 ((hs.f.2.2.2.1).ok oM) ?_)
 obtain ⟨Aqz,cqz,eqz,hcqz,hRqz⟩:=(hs.f.2.2.1).at_ 0 oM
 replace hs:=(hs.a_SlO hRqz)
 refine lHe 15 (us.getD 0 undef) hs ((hs.f.2.2.2.2.1).el 0 oM) eqz ?_
 refine lL hs [.v 16 (.int .i64 ((W.getD 0 []).length:Nat)),.m 17 1,.v 18 (.int .i64 ((vec n x).length:Nat))] ?_
 have hb3:((((W.getD 0 []).length:Nat):Int) != (((vec n x).length:Nat):Int))=false:=bneF oM
 have phb3:=eqOfBne hb3
 refine lB 19 hb3 ?_
 refine lL hs [.v 20 (.bool false)] (lN (cIF (CG.skipN (cSL (lL hs [.m 21 0,.v 22 (.int .i64 (us.length:Nat))] (lK 23 56 us.length 5 56 (.agg #[.bool false,.int .u64 0,.string ⟨#[]⟩,.int .u64 0,.string ⟨#[]⟩]) qc 0 hs (fun b4 w5 h6 hs=>?_)))))))
 have hl7:(List.replicate us.length 0).length=us.length:=by simp
 refine lL hs [.m 6 23] (lN (CG.seq (cSL (lL hs [.m 24 0,.v 25 (.int .i64 (us.length:Nat)),.v 26 (.int .i64 0)] (lN (CG.block (cTo [(1,.slice X ((vec n x).length) cX),(4,.slice none 0 0),(5,.int .i64 0),(6,.slice (some ⟨b4,0,none⟩) us.length us.length),(24,.slice A us.length cap),(25,.int .i64 (us.length:Nat)),(26,.int .i64 0)] ?_)))))))
 refine CG.loop (fun μ_ Γ w_=>∃ (i:Nat) (L:List Rat) (h_:Hp),μ_=n-i∧Γ=[(1,.slice X ((vec n x).length) cX),(4,.slice none 0 0),(5,.int .i64 0),(6,.slice (some ⟨b4,0,none⟩) us.length us.length),(24,.slice A us.length cap),(25,.int .i64 (us.length:Nat)),(26,.int .i64 (i:Nat))]∧SS w h w_ h_ [⟨b4,56,(L).flatMap qc⟩] [] [fun h_=>SlO 5 qc 0 h_ Aqz (W.getD 0 []),fun h_=>Tab h_,fun h_=>SlO 5 qc 0 h_ X (vec n x),fun h_=>QVs h_ us W,fun h_=>SlO 1 vc undef h_ A us]∧(i≤n)∧(L.length=us.length)∧(∀ j,L.getD j 0=if j<i then mv n (mA W) x j else 0)) _ ⟨0,List.replicate us.length (0:Rat),h6,rfl,rfl,hs.to _ _,Nat.zero_le _,(by simp),(fun j=>by rw[rep_zero,if_neg (Nat.not_lt_zero j)])⟩ ?_
 rintro _ _ w8 ⟨i,L,h9,hm10,rfl,hs,hi,hLl,hLv⟩
 refine cSL ?_
 cases hb11:(decide (((i:Nat):Int)<((us.length:Nat):Int)))
 ·
  have phb11:=oF hb11
  refine lB 27 hb11 ?_
  refine lN (CG.seq (cIF (CG.exit ?_)))
  show CG _ _ _ _ _ _ _ _
  refine cSL ?_
  have hin:i=n:=by omega
  have hLe:L=vec n (mv n (mA W) x):=vec_of (hLl.trans oM) (fun j=>by rw[hLv j,hin])
  obtain ⟨h12,hs,sg13,lo14,bc15⟩:=hs.pub 0
  replace hs:=(hs.to [] []).a_SlO (SlO.of_flat (sz:=5) (f:=qc) (d:=0) (b:=b4) (o:=0) (l:=L) (fun _=>rfl) sg13)
  replace hs:=hs.a_SlO (show SlO 5 qc 0 _ (some ⟨b4,0,none⟩) (vec n (mv n (mA W) x)) from by rw[←hLe];exact (hs.f.1))
  exact lL hs [.m 41 6,.m 4 41,.v 5 (.int .i64 0)] (lN (CG.ret (hs.ret [] (.tuple #[.slice (some ⟨b4,0,none⟩) us.length us.length,.int .i64 0]) (⟨(some ⟨b4,0,none⟩),us.length,tup_len (by rw[vec_len];omega),(by rw[vec_len];omega),(hs.f.1)⟩))))
 have phb11:=oT hb11
 refine lB 27 hb11 ?_
 refine lN (CG.seq (cIT (CG.skipN (CG.seq (CG.block (cSL (lL hs [.m 28 26] (lX 29 A us.length cap 1 (i:Nat) i ((hs.f.2.2.2.2.1).ok oM) ?_))))))))
 obtain ⟨Aqx,cqx,eqx,hcqx,hRqx⟩:=(hs.f.2.2.2.1).at_ i oM
 replace hs:=(hs.a_SlO hRqx)
 refine lHe 30 (us.getD i undef) hs ((hs.f.2.2.2.2.2.1).el i oM) eqx ?_
 refine lL hs [.m 7 28,.m 8 30] (lN (CG.listed (lL hs [.m 32 6,.m 33 7,.m 34 8,.m 35 1] (lC 36 hs (cjDot (W.getD i []) x n Aqx cqx X cX (by rw[hR.2.2 i oM];omega) K1 K2 oM oM (hK1 i) hK2 _ _ hs.g (hs.f.1) (hs.f.2.2.2.1) (hs.f.2.2.1)) ?_))))
 rintro _ w17 h18 hs rfl
 refine lL hs [.m 31 36,.v 37 (qv (mv n (mA W) x i)),.v 38 (.bool true)] (lX 39 (some ⟨b4,0,none⟩) us.length us.length 5 (i:Nat) i rfl ?_)
 refine lW 0 L qc 5 i (mv n (mA W) x i) hs oM (fun w19 hs=>?_)
 have hl20:((L).set i (mv n (mA W) x i)).length=us.length:=by rw[List.length_set];exact hLl
 replace hs:=hs.to [⟨b4,56,((L).set i (mv n (mA W) x i)).flatMap qc⟩] []
 refine lN (CG.listed (lIn 40 ((i:Nat)+1) (i+1) ?_))
 refine lL hs [.m 26 40] (lD ?_)
 intro a_ ka
 have q21:(i+1)≤n:=by omega
 have q22:((L).set i (mv n (mA W) x i)).length=us.length:=hl20
 have q23:∀ j,((L).set i (mv n (mA W) x i)).getD j 0=if j<(i+1) then mv n (mA W) x j else 0:=(vec_set hLl hLv oM rfl)
 replace hs:=hs.tl
 refine ⟨_,_,?_,⟨i+1,(L).set i (mv n (mA W) x i),h18,rfl,rfl,hs.to _ _,q21,q22,q23⟩,ka.to [(1,.slice X ((vec n x).length) cX),(4,.slice none 0 0),(5,.int .i64 0),(6,.slice (some ⟨b4,0,none⟩) us.length us.length),(24,.slice A us.length cap),(25,.int .i64 (us.length:Nat)),(26,.int .i64 ((i+1):Nat))] kR⟩
 omega
theorem qValue (A:Option Addr)(cap:Nat)(us:List Value)(W:List (List Rat))(hl:W.length≤1000)(hls:∀ i,i<W.length→(W.getD i []).length≤1000)(x:Nat→Rat)(n:Nat)(hn4:n≤5)(X:Option Addr)(cX:Nat)(hS:SymP W)(hn:W.length=n)(K1 K2 K3:Nat)(hK1:∀ i j,LQ K1 ((W.getD i []).getD j 0))(hK2:∀ i,i<n→LQ K2 (x i))(hK3:∀ i,i<n→LQ K3 (mv n (mA W) x i))(hKb:1≤K1∧1≤K2∧K1+K2≤1000000)(hKc:K2+K3≤1000000)(w:World)(h:Hp)(g:G w h)(hA:SlO 1 vc undef h A us)(hU:QVs h us W)(hX:SlO 5 qc 0 h X (vec n x))(tb:Tab h) :
    Calls Tryz.prog 16 #[.slice A us.length cap,.slice X ((vec n x).length) cX] w (Ret w h fun v _=>v=.tuple #[qv (dt n x (mv n (mA W) x)),.int .i64 0]):=by
 have hs:=SS.start g
 replace hs:=((((hs.a_SlO hA).add (K:=fun h_=>QVs h_ us W) hU).a_SlO hX).add (K:=fun h_=>Tab h_) tb)
 have hlu:=(hs.f.2.2.1).len
 have hvl:=vec_len n x
 refine go Tryz.func16 [(0,.slice A us.length cap),(1,.slice X ((vec n x).length) cX)] rfl ?_
 refine cSL (lA 4 56 ([.bool false,.int .u64 0,.string ⟨#[]⟩,.int .u64 0,.string ⟨#[]⟩]) hs (fun b1 w2 h3 hs=>?_))
 refine lL hs [.v 5 (.int .i64 0)] (lN (CG.seq (cSL (lL hs [.m 10 0] (lC 11 hs (mSymT A cap us W hl hls (fun i j=>(hK1 i j).mono oM) hS _ _ hs.g (hs.f.2.2.2.1) (hs.f.2.2.1)) ?_)))))
 rintro _ w4 h5 hs rfl
 refine lL hs [.v 12 (.bool false),.m 13 12,.m 14 0,.v 15 (.int .i64 (us.length:Nat)),.m 16 1,.v 17 (.int .i64 ((vec n x).length:Nat))] ?_
 have hb6:(((us.length:Nat):Int) != (((vec n x).length:Nat):Int))=false:=bneF oM
 have phb6:=eqOfBne hb6
 refine lB 18 hb6 ?_
 refine lL hs [.v 19 (.bool false)] (lN (cIF (CG.skipN (cSL (lL hs [.m 22 0,.m 23 1] (lC 24 hs (mApply A cap us W hl hls x n hn4 X cX hS.1.1 hn (by rw[←hn];exact hS.1.2.symm) K1 K2 hK1 hK2 hKb _ _ hs.g (hs.f.2.2.2.1) (hs.f.2.2.1) (hs.f.2.1) (hs.f.1)) ?_))))))
 rintro _ w7 h8 hs ⟨Ay,cy,rfl,hcy,hAy⟩
 replace hs:=(hs.a_SlO hAy)
 refine lL hs [.m 21 24,.v 25 (.slice Ay ((vec n (mv n (mA W) x)).length) cy),.v 26 (.int .i64 0),.m 6 25,.m 7 26] (lNS (lL hs [.m 28 1,.m 29 6] (lC 30 hs (cjDotV x (mv n (mA W) x) n X cX Ay cy K2 K3 hn4 oM hK2 hK3 _ _ hs.g (hs.f.2.2.1) (hs.f.1) (hs.f.2.1)) ?_)))
 rintro _ w9 h10 hs rfl
 refine lL hs [.m 27 30,.v 31 (qv (dt n x (mv n (mA W) x))),.v 32 (.bool true)] (lA 8 56 ([.bool false,.int .u64 0,.string ⟨#[]⟩,.int .u64 0,.string ⟨#[]⟩]) hs (fun b11 w12 h13 hs=>?_))
 refine lP 0 0 (qc (dt n x (mv n (mA W) x))) hs (fun w14 hs=>?_)
 refine lL hs [.m 9 32] (lNS (lL hs [.o 33 (qv (dt n x (mv n (mA W) x))) 0 0 5] (lP 1 0 (qc (dt n x (mv n (mA W) x))) hs (fun w15 hs=>?_))))
 exact lL hs [.v 5 (.int .i64 0)] (lN (CG.ret (hs.ret [(1,0,5)] (.tuple #[qv (dt n x (mv n (mA W) x)),.int .i64 0]) rfl)))
theorem sClone0 (b o c:Nat)(l:List Rat)(hpos:0<l.length)(hl:l.length≤1000000)(w:World)(h:Hp)(g:G w h)(hA:SlO 5 qc 0 h (some ⟨b,o,none⟩) l) :
    Calls Tryz.prog 34 #[.slice (some ⟨b,o,none⟩) l.length c] w (Ret w h fun v h1=>SlN h.size 56 qc h1 v l):=by
 have hs:=SS.start g
 replace hs:=(hs.a_SlO hA)
 have hnil:([]:List Rat).length=0:=rfl
 refine go Tryz.func34 [(0,.slice (some ⟨b,o,none⟩) l.length c)] rfl ?_
 refine cSL (lL hs [.v 2 (.slice none 0 0)] (lN (CG.seq (cSL (lL hs [.m 3 0,.v 4 (.bool false)] (lN (cIF (CG.skipN (cSL (lRw 5 56 5 qc ([]:List Rat) hs (fun b1 w2 h3 hs=>?_)))))))))))
 refine lL hs [.m 6 0] (lYs 7 0 56 5 ((([]:List Rat)).length) (some ⟨b1,0,none⟩) ([]:List Rat) qc 0 (some ⟨b,o,none⟩) l c 56 (.agg #[.bool false,.int .u64 0,.string ⟨#[]⟩,.int .u64 0,.string ⟨#[]⟩]) hs (hs.f.1) oM (fun A6 c7 w8 h9 hs=>?_))
 refine lL hs [.m 2 7] (lN (CG.ret ?_))
 obtain ⟨hq,bq,spq,hs,hbq,hcq⟩:=hs.pubn 0 (A:=A6) (c:=c7) (ty:=56) (sz:=5) (l:=([]:List Rat)++l) (f:=qc) (by simpa using hpos)
 subst hbq
 exact hs.ret [] (.slice (some ⟨bq,0,none⟩) l.length c7) (⟨bq,_,spq,rfl,hcq,hs.f.1⟩)
theorem sClone (A:Option Addr)(n c:Nat)(l:List Rat)(hn:l.length=n)(hpos:0<n)(hl:n≤1000000)(w:World)(h:Hp)(g:G w h)(hA:SlO 5 qc 0 h A l):Calls Tryz.prog 34 #[.slice A n c] w (Ret w h fun v h1=>SlN h.size 56 qc h1 v l):=by
  subst hn
  have e:=hA.ok hpos
  rw[e] at hA ⊢
  exact sClone0 _ _ c l hpos hl w h g hA
theorem cjPlus  (a b:Nat→Rat)(n:Nat)(hn4:n≤5)(A:Option Addr)(cA:Nat)(D:Option Addr)(cD:Nat)(k:Rat)(K1 K2 K3:Nat)(hK1:∀ i,i<n→LQ K1 (a i))(hK2:∀ i,i<n→LQ K2 (b i))(hK3:LQ K3 k)(hKb:K1+K2+K3+1≤100000000)(w:World)(h:Hp)(g:G w h)(hA:SlO 5 qc 0 h A (vec n a))(hD:SlO 5 qc 0 h D (vec n b))(tb:Tab h) :
    Calls Tryz.prog 32 #[.slice A ((vec n a).length) cA,.slice D ((vec n b).length) cD,qv k] w (Ret w h fun v h1=>∃ A c,v=.slice A (vec n fun i=>a i+b i*k).length c∧(vec n fun i=>a i+b i*k).length≤c∧SlO 5 qc 0 h1 A (vec n fun i=>a i+b i*k)):=by
 have hs:=SS.start g
 replace hs:=(((hs.a_SlO hA).a_SlO hD).add (K:=fun h_=>Tab h_) tb)
 have hva:=vec_len n a
 have hvb:=vec_len n b
 refine go Tryz.func32 [(0,.slice A ((vec n a).length) cA),(1,.slice D ((vec n b).length) cD),(2,qv k)] rfl ?_
 refine cSL (lA 5 56 (qc k) hs (fun b1 w2 h3 hs=>?_))
 refine lL hs [.v 6 (.slice none 0 0)] (lNS (lL hs [.m 9 0,.v 10 (.int .i64 ((vec n a).length:Nat))] (lK 11 56 ((vec n a).length) 5 56 (.agg #[.bool false,.int .u64 0,.string ⟨#[]⟩,.int .u64 0,.string ⟨#[]⟩]) qc 0 hs (fun b4 w5 h6 hs=>?_))))
 have hl7:(List.replicate ((vec n a).length) 0).length=((vec n a).length):=by simp
 refine lL hs [.m 7 11] (lN (CG.seq (cSL (lL hs [.m 12 7,.v 13 (.int .i64 (((vec n a).length):Nat)),.v 14 (.int .i64 0)] (lN (CG.block (cTo [(0,.slice A ((vec n a).length) cA),(1,.slice D ((vec n b).length) cD),(5,.pointer (some ⟨b1,0,none⟩)),(6,.slice none 0 0),(7,.slice (some ⟨b4,0,none⟩) ((vec n a).length) ((vec n a).length)),(13,.int .i64 (((vec n a).length):Nat)),(14,.int .i64 0)] ?_)))))))
 refine CG.loop (fun μ_ Γ w_=>∃ (i:Nat) (L:List Rat) (h_:Hp),μ_=n-i∧Γ=[(0,.slice A ((vec n a).length) cA),(1,.slice D ((vec n b).length) cD),(5,.pointer (some ⟨b1,0,none⟩)),(6,.slice none 0 0),(7,.slice (some ⟨b4,0,none⟩) ((vec n a).length) ((vec n a).length)),(13,.int .i64 (((vec n a).length):Nat)),(14,.int .i64 (i:Nat))]∧SS w h w_ h_ [⟨b4,56,(L).flatMap qc⟩,⟨b1,56,qc k⟩] [] [fun h_=>Tab h_,fun h_=>SlO 5 qc 0 h_ D (vec n b),fun h_=>SlO 5 qc 0 h_ A (vec n a)]∧(i≤n)∧(L.length=((vec n a).length))∧(∀ j,L.getD j 0=if j<i then (fun i_=>a i_+b i_*k) j else 0)) _ ⟨0,List.replicate ((vec n a).length) (0:Rat),h6,rfl,rfl,hs.to _ _,Nat.zero_le _,(by simp),(fun j=>by rw[rep_zero,if_neg (Nat.not_lt_zero j)])⟩ ?_
 rintro _ _ w8 ⟨i,L,h9,hm10,rfl,hs,hi,hLl,hLv⟩
 refine cSL ?_
 cases hb11:(decide (((i:Nat):Int)<((((vec n a).length):Nat):Int)))
 ·
  have phb11:=oF hb11
  refine lB 15 hb11 ?_
  refine lN (CG.seq (cIF (CG.exit ?_)))
  show CG _ _ _ _ _ _ _ _
  refine cSL ?_
  have hin:i=n:=by omega
  have hLe:L=vec n (fun i=>a i+b i*k):=vec_of (hLl.trans oM) (fun j=>by rw[hLv j,hin])
  obtain ⟨h12,hs,sg13,lo14,bc15⟩:=hs.pub 0
  replace hs:=(hs.to [⟨b1,56,qc k⟩] []).a_SlO (SlO.of_flat (sz:=5) (f:=qc) (d:=0) (b:=b4) (o:=0) (l:=L) (fun _=>rfl) sg13)
  replace hs:=hs.a_SlO (show SlO 5 qc 0 _ (some ⟨b4,0,none⟩) (vec n (fun i=>a i+b i*k)) from by rw[←hLe];exact (hs.f.1))
  exact lL hs [.m 32 7,.m 6 32] (lN (CG.ret (hs.ret [] (.slice (some ⟨b4,0,none⟩) ((vec n a).length) ((vec n a).length)) (⟨(some ⟨b4,0,none⟩),((vec n a).length),sl_len (by rw[vec_len,vec_len]),(by rw[vec_len,vec_len];exact Nat.le_refl _),(hs.f.1)⟩))))
 have phb11:=oT hb11
 refine lB 15 hb11 ?_
 refine lN (CG.seq (cIT (CG.skipN (CG.seq (CG.block (cSL (lL hs [.m 16 14,.m 8 16] (lN (cR 13 [] mixed hs al_nil ?_)))))))))
 refine eV 0 17 (.slice (some ⟨b4,0,none⟩) ((vec n a).length) ((vec n a).length)) ?_
 refine eV 1 18 (.int .i64 (i:Nat)) ?_
 refine eV 2 19 (.slice A ((vec n a).length) cA) ?_
 refine eV 3 20 (.int .i64 (i:Nat)) ?_
 refine eX 4 21 A ((vec n a).length) cA 5 (i:Nat) i ((hs.f.2.2.1).ok oM) ?_
 refine eH 5 22 (qv ((vec n a).getD i 0)) hs ((hs.f.2.2.1).el i oM) ?_
 refine eV 6 23 (.slice D ((vec n b).length) cD) ?_
 refine eV 7 24 (.int .i64 (i:Nat)) ?_
 refine eX 8 25 D ((vec n b).length) cD 5 (i:Nat) i ((hs.f.2.1).ok oM) ?_
 refine eH 9 26 (qv ((vec n b).getD i 0)) hs ((hs.f.2.1).el i oM) ?_
 refine eO 10 27 [(1,0,5)] (qv k) hs ?_
 have hq17:=LQ.mul (show LQ K2 ((vec n b).getD i 0) from by rw[vec_get b oM];exact hK2 i oM) hK3
 refine eC 11 28 hs (fun _ _ hs=>fMul ((vec n b).getD i 0) k (LQ.mono (show LQ K2 ((vec n b).getD i 0) from by rw[vec_get b oM];exact hK2 i oM) oM) (LQ.mono hK3 oM) _ _ hs.g (hs.f.1)) ?_
 rintro _ _ _ w18 h19 hs rfl
 have hq20:=LQ.add (show LQ K1 ((vec n a).getD i 0) from by rw[vec_get a oM];exact hK1 i oM) hq17
 refine eC 12 29 hs (fun _ _ hs=>fAdd ((vec n a).getD i 0) (((vec n b).getD i 0)*k) (LQ.mono (show LQ K1 ((vec n a).getD i 0) from by rw[vec_get a oM];exact hK1 i oM) oM) (LQ.mono hq17 oM) _ _ hs.g (hs.f.1)) ?_
 rintro _ _ _ w21 h22 hs rfl
 refine eD0 hs (fun w23 h24 hs=>?_)
 refine tX 13 30 (some ⟨b4,0,none⟩) ((vec n a).length) ((vec n a).length) 5 (i:Nat) i rfl ?_
 refine tW 14 0 L qc 5 i (((vec n a).getD i 0)+(((vec n b).getD i 0)*k)) hs oM (fun w25 hs=>?_)
 have hl26:((L).set i (((vec n a).getD i 0)+(((vec n b).getD i 0)*k))).length=((vec n a).length):=by rw[List.length_set];exact hLl
 replace hs:=hs.to [⟨b4,56,((L).set i (((vec n a).getD i 0)+(((vec n b).getD i 0)*k))).flatMap qc⟩,⟨b1,56,qc k⟩] []
 refine tN (CG.listed (lIn 31 ((i:Nat)+1) (i+1) ?_))
 refine lL hs [.m 14 31] (lD ?_)
 intro a_ ka
 have q27:(i+1)≤n:=by omega
 have q28:((L).set i (((vec n a).getD i 0)+(((vec n b).getD i 0)*k))).length=((vec n a).length):=hl26
 have q29:∀ j,((L).set i (((vec n a).getD i 0)+(((vec n b).getD i 0)*k))).getD j 0=if j<(i+1) then (fun i_=>a i_+b i_*k) j else 0:=(vec_set hLl hLv oM (by rw[vec_get a oM,vec_get b oM]))
 refine ⟨_,_,?_,⟨i+1,(L).set i (((vec n a).getD i 0)+(((vec n b).getD i 0)*k)),h24,rfl,rfl,hs.to _ _,q27,q28,q29⟩,ka.to [(0,.slice A ((vec n a).length) cA),(1,.slice D ((vec n b).length) cD),(5,.pointer (some ⟨b1,0,none⟩)),(6,.slice none 0 0),(7,.slice (some ⟨b4,0,none⟩) ((vec n a).length) ((vec n a).length)),(13,.int .i64 (((vec n a).length):Nat)),(14,.int .i64 ((i+1):Nat))] kR⟩
 omega
abbrev TV:=Value × Value × Value
def tv0:TV:=(.slice none 0 0,.slice none 0 0,.slice none 0 0)
def tvc (t:TV):List Value:=[t.1,t.2.1,t.2.2]
def TR1 (n:Nat)(s:Cst)(h:Hp)(t:TV):Prop:=(∃ A c,t.1=.slice A (vec n s.x).length c∧SlO 5 qc 0 h A (vec n s.x))∧(∃ A c,t.2.1=.slice A (vec n s.r).length c∧SlO 5 qc 0 h A (vec n s.r))∧∃ A c,t.2.2=.slice A (vec n s.w).length c∧SlO 5 qc 0 h A (vec n s.w)
theorem TR1.gw {n:Nat}{s:Cst}{h h':Hp}{t:TV}(x:TR1 n s h t)(u:Gw h h'):TR1 n s h' t:=by
  obtain ⟨⟨A,c,e,p⟩,⟨B,d,f,q⟩,C,g,i,r⟩:=x
  exact ⟨⟨A,c,e,p.gw u⟩,⟨B,d,f,q.gw u⟩,C,g,i,r.gw u⟩
structure CTr (n:Nat) (A:Nat→Nat→Rat) (b x:Nat→Rat) (h:Hp) (al:List TV):Prop where
  at_:∀ i,i<al.length→TR1 n (cg n A b x i) h (al.getD i tv0)
theorem CTr.gw {n:Nat}{A:Nat→Nat→Rat}{b x:Nat→Rat}{h h':Hp}{al:List TV}(y:CTr n A b x h al)(u:Gw h h'):CTr n A b x h' al:=⟨fun i hi=>(y.at_ i hi).gw u⟩
theorem CTr.nil {n:Nat}{A:Nat→Nat→Rat}{b x:Nat→Rat}{h:Hp}:CTr n A b x h []:=⟨fun i hi=>absurd hi (Nat.not_lt_zero i)⟩
theorem CTr.snoc {n:Nat}{A:Nat→Nat→Rat}{b x:Nat→Rat}{h:Hp}{al:List TV}{t:TV}(y:CTr n A b x h al)(z:TR1 n (cg n A b x al.length) h t):CTr n A b x h (al++[t]):=⟨fun i hi=>by
  rw[List.length_append,List.length_singleton] at hi
  rw[getD_snoc]
  by_cases e:i<al.length
  · rw[if_pos e];exact y.at_ i e
  · rw[if_neg e,if_pos oM,show i=al.length by omega];exact z⟩
open Classical in
noncomputable def cjE (W:List (List Rat)) (bl xl:List Rat):Int:=if SqP W∧bl.length=W.length∧xl.length=W.length then 10 else 5
theorem cjE_10 {W:List (List Rat)}{bl xl:List Rat}(h:SqP W∧bl.length=W.length∧xl.length=W.length):cjE W bl xl=10:=if_pos h
theorem cjE_5 {W:List (List Rat)}{bl xl:List Rat}(h:¬SqP W∨(bl.length≠W.length∨xl.length≠W.length)):cjE W bl xl=5:=if_neg (fun x=>by
  rcases h with h|h|h
  · exact h x.1
  · exact h x.2.1
  · exact h x.2.2)
theorem mSqT (A:Option Addr)(cap:Nat)(us:List Value)(W:List (List Rat))(hl:W.length≤1000)(hls:∀ i,i<W.length→(W.getD i []).length≤1000)(hS:SqP W)(w:World)(h:Hp)(g:G w h)(hA:SlO 1 vc undef h A us)(hU:QVs h us W):Calls Tryz.prog 29 #[.slice A us.length cap] w (Ret w h fun v _=>v=.bool true):=by
  have x:=mSquare A cap us W hl hls w h g hA hU
  rw[sq_t hS] at x
  exact x
theorem cjClone (A:Option Addr)(c:Nat)(l:List Rat)(n:Nat)(hn:l.length=n)(hpos:0<n)(hl:n≤1000000)(w:World)(h:Hp)(g:G w h)(hA:SlO 5 qc 0 h A l):Calls Tryz.prog 34 #[.slice A l.length c] w (Ret w h fun v h1=>∃ B d,v=.slice B l.length d∧SlO 5 qc 0 h1 B l):=by
  refine (sClone A l.length c l rfl oM oM w h g hA).mono ?_
  rintro _ w' ⟨_,h',rfl,u,x⟩
  obtain ⟨B,d,e,_,s⟩:=x.slv (d:=0) (sz:=5) (fun _=>rfl)
  exact ⟨_,h',rfl,u,B,d,e,s⟩
section
variable {n:Nat} {A:Nat→Nat→Rat} {b x:Nat→Rat} {t:Nat}
theorem cj_z (h:(dt n (cg n A b x t).r (cg n A b x t).r).num.sign=0):dt n (cg n A b x t).r (cg n A b x t).r=0:=Rat.num_eq_zero.1 (Int.sign_eq_zero_iff_zero.1 h)
theorem cj_nz (h:(dt n (cg n A b x t).r (cg n A b x t).r).num.sign≠0):dt n (cg n A b x t).r (cg n A b x t).r≠0:=fun e=>h (by rw[e];rfl)
theorem cj_np (h:(dt n (cg n A b x t).w (mv n A (cg n A b x t).w)).num.sign≤0):¬0<(dt n (cg n A b x t).w (mv n A (cg n A b x t).w)).num:=fun e=>by rw[Int.sign_eq_one_of_pos e] at h;omega
theorem cj_go (h:(dt n (cg n A b x t).r (cg n A b x t).r).num.sign≠0)(h2:¬(dt n (cg n A b x t).w (mv n A (cg n A b x t).w)).num.sign≤0):dt n (cg n A b x t).r (cg n A b x t).r≠0∧0<(dt n (cg n A b x t).w (mv n A (cg n A b x t).w)).num:=⟨cj_nz h,by
  rcases Int.lt_trichotomy (dt n (cg n A b x t).w (mv n A (cg n A b x t).w)).num 0 with e|e|e
  · rw[Int.sign_eq_neg_one_of_neg e] at h2;omega
  · rw[e] at h2;exact absurd kD h2
  · exact e⟩
theorem cj_all (h:∀ i,i<t→dt n (cg n A b x i).r (cg n A b x i).r≠0∧0<(dt n (cg n A b x i).w (mv n A (cg n A b x i).w)).num)(h2:dt n (cg n A b x t).r (cg n A b x t).r≠0∧0<(dt n (cg n A b x t).w (mv n A (cg n A b x t).w)).num):∀ i,i<t+1→dt n (cg n A b x i).r (cg n A b x i).r≠0∧0<(dt n (cg n A b x i).w (mv n A (cg n A b x i).w)).num:=fun i hi=>by
  by_cases e:i=t
  · rw[e];exact h2
  · exact h i oM
end
theorem cConj0 (A:Option Addr)(cap:Nat)(us:List Value)(W:List (List Rat))(hl:W.length≤1000)(hls:∀ i,i<W.length→(W.getD i []).length≤1000)(b x:Nat→Rat)(n:Nat)(hn4:n≤5)(D:Option Addr)(cD:Nat)(X:Option Addr)(cX:Nat)(hS:SymP W)(hn:W.length=n)(hK1:∀ i j,LQ 3 ((W.getD i []).getD j 0))(hb:∀ i,i<n→LQ 100000 (b i))(hx:∀ i,i<n→LQ 100000 (x i))(hB:∀ t,t≤n→CgB n (mA W) b x t)(w:World)(h:Hp)(g:G w h)(hA:SlO 1 vc undef h A us)(hU:QVs h us W)(hD:SlO 5 qc 0 h D (vec n b))(hX:SlO 5 qc 0 h X (vec n x))(tb:Tab h) :
    Calls Tryz.prog 8 #[.slice A us.length cap,.slice D ((vec n b).length) cD,.slice X ((vec n x).length) cX] w (Ret w h fun v h1=>∃ (t:Nat) (e:Int) (A:Option Addr) (c:Nat) (al:List TV),CjEnd n (mA W) b x t e∧v=.tuple #[.slice A al.length c,.int .i64 e]∧SlO 3 tvc tv0 h1 A al∧CTr n (mA W) b x h1 al∧al.length=(if e=0 then t+1 else 0)):=by
 have hs:=SS.start g
 replace hs:=(((((hs.a_SlO hA).add (K:=fun h_=>QVs h_ us W) hU).a_SlO hD).a_SlO hX).add (K:=fun h_=>Tab h_) tb)
 have hlu:=(hs.f.2.2.2.1).len
 have hvb:=vec_len n b
 have hvx:=vec_len n x
 have hSy:∀ i,i<n→∀ j,j<n→mA W i j=mA W j i:=by rw[←hn];exact hS.all
 have hB0:=hB 0 (Nat.zero_le _)
 have hn0:0<n:=by have:=hS.1.1.1;omega
 refine go Tryz.func8 [(0,.slice A us.length cap),(1,.slice D ((vec n b).length) cD),(2,.slice X ((vec n x).length) cX)] rfl ?_
 refine cSL (lL hs [.v 6 (.slice none 0 0),.v 7 (.int .i64 0)] (lN (CG.seq (cSL (lL hs [.m 25 0] (lC 26 hs (mSqT A cap us W hl hls hS.1 _ _ hs.g (hs.f.2.2.2.2.1) (hs.f.2.2.2.1)) ?_))))))
 rintro _ w1 h2 hs rfl
 refine lL hs [.v 27 (.bool false),.m 28 27,.m 29 1,.v 30 (.int .i64 ((vec n b).length:Nat)),.m 31 0,.v 32 (.int .i64 (us.length:Nat))] ?_
 have hb3:((((vec n b).length:Nat):Int) != ((us.length:Nat):Int))=false:=bneF oM
 have phb3:=eqOfBne hb3
 refine lB 33 hb3 ?_
 refine lL hs [.v 34 (.bool false),.m 35 34,.m 36 2,.v 37 (.int .i64 ((vec n x).length:Nat)),.m 38 0,.v 39 (.int .i64 (us.length:Nat))] ?_
 have hb4:((((vec n x).length:Nat):Int) != ((us.length:Nat):Int))=false:=bneF oM
 have phb4:=eqOfBne hb4
 refine lB 40 hb4 ?_
 refine lL hs [.v 41 (.bool false)] (lN (cIF (CG.skipN (CG.seq (cSL (lL hs [.m 42 0] (lC 43 hs (mSymT A cap us W hl hls (fun i j=>(hK1 i j).mono oM) hS _ _ hs.g (hs.f.2.2.2.2.1) (hs.f.2.2.2.1)) ?_)))))))
 rintro _ w5 h6 hs rfl
 refine lL hs [.v 44 (.bool false)] (lN (cIF (CG.skipN (cSL (lL hs [.m 46 0,.m 47 2] (lC 48 hs (mApply A cap us W hl hls x n hn4 X cX hS.1.1 hn (by rw[←hn];exact hS.1.2.symm) 3 100000 hK1 hx kD _ _ hs.g (hs.f.2.2.2.2.1) (hs.f.2.2.2.1) (hs.f.2.1) (hs.f.1)) ?_))))))
 rintro _ w7 h8 hs ⟨Ay,cy,rfl,hcy,hAy⟩
 replace hs:=(hs.a_SlO hAy)
 refine lL hs [.m 45 48,.v 49 (.slice Ay ((vec n (mv n (mA W) x)).length) cy),.v 50 (.int .i64 0),.m 8 49,.m 9 50] (lNS (lL hs [.m 51 1,.m 52 8] (lC 53 hs (fOf (-1) oM oM _ _ hs.g) ?_)))
 rintro _ w9 h10 hs rfl
 refine lC 54 hs (cjPlus b (mv n (mA W) x) n oM D cD Ay cy ((-1:Int):Rat) 100000 100000 1 hb (hB0.ax) (LQ.int oM oM) oM _ _ hs.g (hs.f.2.2.2.1) (hs.f.1) (hs.f.2.1)) ?_
 rintro _ w11 h12 hs ⟨Xr,cr,rfl,hcr,hXr⟩
 replace hs:=(hs.a_SlO hXr)
 refine lL hs [.m 8 54] (lNS (lL hs [.m 55 2] (lC 56 hs (cjClone X cX (vec n x) n (vec_len n _) oM oM _ _ hs.g (hs.f.2.2.2.1)) ?_)))
 rintro _ w13 h14 hs ⟨K1,ck1,rfl,hK_1⟩
 replace hs:=(hs.a_SlO hK_1)
 refine lL hs [.m 57 8,.m 58 8] (lC 59 hs (cjClone Xr cr (vec n (cg n (mA W) b x 0).r) n (vec_len n _) oM oM _ _ hs.g (hs.f.2.1)) ?_)
 rintro _ w15 h16 hs ⟨K2,ck2,rfl,hK_2⟩
 replace hs:=(hs.a_SlO hK_2)
 refine lL hs [.v 60 (.agg #[.slice K1 ((vec n x).length) ck1,.slice Xr ((vec n (cg n (mA W) b x 0).r).length) cr,.slice K2 ((vec n (cg n (mA W) b x 0).r).length) ck2])] (lRw 61 43 3 tvc ([((.slice K1 ((vec n x).length) ck1,.slice Xr ((vec n (cg n (mA W) b x 0).r).length) cr,.slice K2 ((vec n (cg n (mA W) b x 0).r).length) ck2):TV)]:List TV) hs (fun b17 w18 h19 hs=>?_))
 refine lL hs [.m 10 61] (lN (cTo [(0,.slice A us.length cap),(1,.slice D ((vec n b).length) cD),(6,.slice none 0 0),(7,.int .i64 0),(10,.slice (some ⟨b17,0,none⟩) ((([((.slice K1 ((vec n x).length) ck1,.slice Xr ((vec n (cg n (mA W) b x 0).r).length) cr,.slice K2 ((vec n (cg n (mA W) b x 0).r).length) ck2):TV)]:List TV)).length) ((([((.slice K1 ((vec n x).length) ck1,.slice Xr ((vec n (cg n (mA W) b x 0).r).length) cr,.slice K2 ((vec n (cg n (mA W) b x 0).r).length) ck2):TV)]:List TV)).length))] ?_))
 refine CG.block (cTo [(0,.slice A us.length cap),(1,.slice D ((vec n b).length) cD),(10,.slice (some ⟨b17,0,none⟩) ((([((.slice K1 ((vec n x).length) ck1,.slice Xr ((vec n (cg n (mA W) b x 0).r).length) cr,.slice K2 ((vec n (cg n (mA W) b x 0).r).length) ck2):TV)]:List TV)).length) ((([((.slice K1 ((vec n x).length) ck1,.slice Xr ((vec n (cg n (mA W) b x 0).r).length) cr,.slice K2 ((vec n (cg n (mA W) b x 0).r).length) ck2):TV)]:List TV)).length))] ?_)
 replace hs:=hs.add (K:=fun h_=>CTr n (mA W) b x h_ ([((.slice K1 ((vec n x).length) ck1,.slice Xr ((vec n (cg n (mA W) b x 0).r).length) cr,.slice K2 ((vec n (cg n (mA W) b x 0).r).length) ck2):TV)]:List TV)) ((CTr.nil.snoc ⟨⟨_,_,rfl,(hs.f.2.1)⟩,⟨_,_,rfl,(hs.f.2.2.1)⟩,⟨_,_,rfl,(hs.f.1)⟩⟩))
 replace hs:=hs.add (K:=fun h_=>SlO 5 qc 0 h_ K2 (vec n (cg n (mA W) b x 0).w)) ((hs.f.2.1))
 replace hs:=hs.add (K:=fun h_=>SlO 5 qc 0 h_ Xr (vec n (cg n (mA W) b x 0).r)) ((hs.f.2.2.2.2.1))
 replace hs:=hs.add (K:=fun h_=>SlO 5 qc 0 h_ K1 (vec n (cg n (mA W) b x 0).x)) ((hs.f.2.2.2.2.1))
 refine CG.loop (fun μ_ Γ w_=>∃ (t:Nat) (saA:Option Addr) (sac:Nat) (al:List TV) (Ax:Option Addr) (cx:Nat) (Ar:Option Addr) (cr_:Nat) (Aw:Option Addr) (cw:Nat) (h_:Hp),μ_=n+1-t∧Γ=[(0,.slice A us.length cap),(1,.slice D ((vec n b).length) cD),(10,.slice saA ((al).length) sac)]∧SS w h w_ h_ [] [⟨43,3,saA,sac,(al).length,(al).flatMap tvc⟩] [fun h_=>SlO 5 qc 0 h_ Ax (vec n (cg n (mA W) b x t).x),fun h_=>SlO 5 qc 0 h_ Ar (vec n (cg n (mA W) b x t).r),fun h_=>SlO 5 qc 0 h_ Aw (vec n (cg n (mA W) b x t).w),fun h_=>CTr n (mA W) b x h_ al,fun h_=>SlO 5 qc 0 h_ K2 (vec n (cg n (mA W) b x 0).r),fun h_=>SlO 5 qc 0 h_ K1 (vec n x),fun h_=>SlO 5 qc 0 h_ Xr (vec n (cg n (mA W) b x 0).r),fun h_=>SlO 5 qc 0 h_ Ay (vec n (mv n (mA W) x)),fun h_=>Tab h_,fun h_=>SlO 5 qc 0 h_ X (vec n x),fun h_=>SlO 5 qc 0 h_ D (vec n b),fun h_=>QVs h_ us W,fun h_=>SlO 1 vc undef h_ A us]∧(al.length=t+1)∧(al.getD t tv0=(.slice Ax (vec n (cg n (mA W) b x t).x).length cx,.slice Ar (vec n (cg n (mA W) b x t).r).length cr_,.slice Aw (vec n (cg n (mA W) b x t).w).length cw))∧(∀ i,i<t→dt n (cg n (mA W) b x i).r (cg n (mA W) b x i).r≠0∧0<(dt n (cg n (mA W) b x i).w (mv n (mA W) (cg n (mA W) b x i).w)).num)) _ ⟨0,some ⟨b17,0,none⟩,(([((.slice K1 ((vec n x).length) ck1,.slice Xr ((vec n (cg n (mA W) b x 0).r).length) cr,.slice K2 ((vec n (cg n (mA W) b x 0).r).length) ck2):TV)]:List TV)).length,([((.slice K1 ((vec n x).length) ck1,.slice Xr ((vec n (cg n (mA W) b x 0).r).length) cr,.slice K2 ((vec n (cg n (mA W) b x 0).r).length) ck2):TV)]:List TV),K1,ck1,Xr,cr,K2,ck2,h19,rfl,rfl,hs.to _ _,rfl,rfl,(fun i hi=>absurd hi (Nat.not_lt_zero i))⟩ ?_
 rintro _ _ w22 ⟨t,saA,sac,al,Ax,cx,Ar,cr_,Aw,cw,h23,hm24,rfl,hs,ht,hcur,hg⟩
 have htn:=cg_ends hSy (fun i hi=>goes_of (hg i hi))
 have hBt:=hB t htn
 refine CG.block (cSL (lL hs [.m 62 10,.m 63 10,.v 64 (.int .i64 ((al).length:Nat))] (lIn 65 (((al).length:Nat)-1) t ?_)))
 obtain ⟨bR25,hbR26⟩:=hs.rowA 0 (A:=saA) (c:=sac) (m:=(al).length) (ty:=43) (sz:=3) (cs:=(al).flatMap tvc) oM
 subst hbR26
 refine lX 66 (some ⟨bR25,0,none⟩) ((al).length) sac 3 (t:Nat) t rfl ?_
 refine lRq (ty:=43) (sz:=3) (c:=sac) (m:=(al).length) (b:=bR25) (cs:=(al).flatMap tvc) 67 0 (.agg #[.slice Ax ((vec n (cg n (mA W) b x t).x).length) cx,.slice Ar ((vec n (cg n (mA W) b x t).r).length) cr_,.slice Aw ((vec n (cg n (mA W) b x t).w).length) cw]) ([.slice Ax ((vec n (cg n (mA W) b x t).x).length) cx,.slice Ar ((vec n (cg n (mA W) b x t).r).length) cr_,.slice Aw ((vec n (cg n (mA W) b x t).w).length) cw]) hs ((row_el (f:=tvc) (sz:=3) (fun _=>rfl) tv0 al t oM).trans (congrArg tvc hcur)) ?_
 refine lA 11 43 ([.slice none 0 0,.slice none 0 0,.slice none 0 0]) hs (fun b27 w28 h29 hs=>?_)
 refine lP 0 0 ([.slice Ax ((vec n (cg n (mA W) b x t).x).length) cx,.slice Ar ((vec n (cg n (mA W) b x t).r).length) cr_,.slice Aw ((vec n (cg n (mA W) b x t).w).length) cw]) hs (fun w30 hs=>?_)
 refine lNS (lL hs [.v 69 (.pointer (some ⟨b27,1,none⟩)),.o 70 (.slice Ar ((vec n (cg n (mA W) b x t).r).length) cr_) 0 1 1,.v 71 (.pointer (some ⟨b27,1,none⟩)),.o 72 (.slice Ar ((vec n (cg n (mA W) b x t).r).length) cr_) 0 1 1] (lC 73 hs (cjDotV (cg n (mA W) b x t).r (cg n (mA W) b x t).r n Ar cr_ Ar cr_ 100000 100000 oM kD hBt.r hBt.r _ _ hs.g (hs.f.2.1) (hs.f.2.1) (hs.f.2.2.2.2.2.2.2.2.1)) ?_))
 rintro _ w31 h32 hs rfl
 refine lL hs [.m 68 73,.v 74 (qv (dt n (cg n (mA W) b x t).r (cg n (mA W) b x t).r)),.v 75 (.bool true)] (lA 12 56 ([.bool false,.int .u64 0,.string ⟨#[]⟩,.int .u64 0,.string ⟨#[]⟩]) hs (fun b33 w34 h35 hs=>?_))
 refine lP 0 0 (qc (dt n (cg n (mA W) b x t).r (cg n (mA W) b x t).r)) hs (fun w36 hs=>?_)
 refine lL hs [.m 13 75] (lN (CG.seq (cSL (lL hs [.o 76 (qv (dt n (cg n (mA W) b x t).r (cg n (mA W) b x t).r)) 0 0 5] (lC 77 hs (fSign (dt n (cg n (mA W) b x t).r (cg n (mA W) b x t).r) (hBt.rr.mono oM) _ _ hs.g) ?_)))))
 rintro _ w37 h38 hs rfl
 cases hb39:(((dt n (cg n (mA W) b x t).r (cg n (mA W) b x t).r).num.sign:Int) == (0:Int))
 ·
  have phb39:=neOfBeq hb39
  refine lB 78 hb39 ?_
  refine lN (cIF (CG.skipN (cSL (lL hs [.m 81 0,.v 82 (.pointer (some ⟨b27,2,none⟩)),.o 83 (.slice Aw ((vec n (cg n (mA W) b x t).w).length) cw) 1 2 1] (lC 84 hs (qValue A cap us W hl hls (cg n (mA W) b x t).w n oM Aw cw hS hn 3 100000 100000 hK1 hBt.w hBt.aw kD kD _ _ hs.g (hs.f.2.2.2.2.2.2.2.2.2.2.2.2.1) (hs.f.2.2.2.2.2.2.2.2.2.2.2.1) (hs.f.2.2.1) (hs.f.2.2.2.2.2.2.2.2.1)) ?_)))))
  rintro _ w40 h41 hs rfl
  refine lL hs [.m 80 84,.v 85 (qv (dt n (cg n (mA W) b x t).w (mv n (mA W) (cg n (mA W) b x t).w))),.v 86 (.int .i64 0)] (lA 14 56 ([.bool false,.int .u64 0,.string ⟨#[]⟩,.int .u64 0,.string ⟨#[]⟩]) hs (fun b42 w43 h44 hs=>?_))
  refine lP 0 0 (qc (dt n (cg n (mA W) b x t).w (mv n (mA W) (cg n (mA W) b x t).w))) hs (fun w45 hs=>?_)
  refine lL hs [.m 15 86] (lN (CG.seq (cSL (lL hs [.o 87 (qv (dt n (cg n (mA W) b x t).w (mv n (mA W) (cg n (mA W) b x t).w))) 0 0 5] (lC 88 hs (fSign (dt n (cg n (mA W) b x t).w (mv n (mA W) (cg n (mA W) b x t).w)) (hBt.ww.mono oM) _ _ hs.g) ?_)))))
  rintro _ w46 h47 hs rfl
  cases hb48:(decide (((dt n (cg n (mA W) b x t).w (mv n (mA W) (cg n (mA W) b x t).w)).num.sign:Int)≤(0:Int)))
  ·
   have phb48:=oF hb48
   refine lB 89 hb48 ?_
   refine lN (cIF (CG.skipN (cSL (lL hs [.o 91 (qv (dt n (cg n (mA W) b x t).r (cg n (mA W) b x t).r)) 1 0 5,.o 92 (qv (dt n (cg n (mA W) b x t).w (mv n (mA W) (cg n (mA W) b x t).w))) 0 0 5] ?_))))
   have hgo:=cj_go (n:=n) (A:=(mA W)) (b:=b) (x:=x) (t:=t) oM oM
   have hg1:∀ i,i<t+1→_:=cj_all hg hgo
   have htn1:=cg_ends hSy (fun i hi=>goes_of (hg1 i hi))
   have hB1:=hB (t+1) htn1
   refine lC 93 hs (fDivN (dt n (cg n (mA W) b x t).r (cg n (mA W) b x t).r) (dt n (cg n (mA W) b x t).w (mv n (mA W) (cg n (mA W) b x t).w)) (hBt.rr.mono oM) (hBt.ww.mono oM) (by have:=Int.sign_eq_zero_iff_zero (a:=(dt n (cg n (mA W) b x t).w (mv n (mA W) (cg n (mA W) b x t).w)).num);omega) _ _ hs.g (hs.f.2.2.2.2.2.2.2.2.1)) ?_
   rintro _ w49 h50 hs rfl
   refine lL hs [.m 90 93,.v 94 (qv (cgK n (mA W) (cg n (mA W) b x t))),.v 95 (.bool true)] (lA 16 56 ([.bool false,.int .u64 0,.string ⟨#[]⟩,.int .u64 0,.string ⟨#[]⟩]) hs (fun b51 w52 h53 hs=>?_))
   refine lP 0 0 (qc (cgK n (mA W) (cg n (mA W) b x t))) hs (fun w54 hs=>?_)
   refine lL hs [.m 17 95] (lN (cTo [(0,.slice A us.length cap),(1,.slice D ((vec n b).length) cD),(10,.slice (some ⟨bR25,0,none⟩) ((al).length) sac),(11,.pointer (some ⟨b27,0,none⟩)),(12,.pointer (some ⟨b33,0,none⟩)),(16,.pointer (some ⟨b51,0,none⟩))] ?_))
   refine cSL (lL hs [.v 96 (.pointer (some ⟨b27,0,none⟩)),.o 97 (.slice Ax ((vec n (cg n (mA W) b x t).x).length) cx) 3 0 1,.v 98 (.pointer (some ⟨b27,2,none⟩)),.o 99 (.slice Aw ((vec n (cg n (mA W) b x t).w).length) cw) 3 2 1,.o 100 (qv (cgK n (mA W) (cg n (mA W) b x t))) 0 0 5] (lC 101 hs (cjPlus (cg n (mA W) b x t).x (cg n (mA W) b x t).w n oM Ax cx Aw cw (cgK n (mA W) (cg n (mA W) b x t)) 100000 100000 100000 hBt.xx hBt.w hBt.k oM _ _ hs.g (hs.f.1) (hs.f.2.2.1) (hs.f.2.2.2.2.2.2.2.2.1)) ?_))
   rintro _ w55 h56 hs ⟨Xn,cn,rfl,hcn,hXn⟩
   replace hs:=(hs.a_SlO hXn)
   refine lL hs [.v 102 (.agg #[.slice Xn ((vec n (cg n (mA W) b x (t+1)).x).length) cn,.slice none 0 0,.slice none 0 0])] (lA 18 43 ([.slice none 0 0,.slice none 0 0,.slice none 0 0]) hs (fun b57 w58 h59 hs=>?_))
   refine lP 0 0 ([.slice Xn ((vec n (cg n (mA W) b x (t+1)).x).length) cn,.slice none 0 0,.slice none 0 0]) hs (fun w60 hs=>?_)
   refine lNS (lL hs [.m 104 0,.v 105 (.pointer (some ⟨b57,0,none⟩)),.o 106 (.slice Xn ((vec n (cg n (mA W) b x (t+1)).x).length) cn) 0 0 1] (lC 107 hs (mApply A cap us W hl hls ((cg n (mA W) b x (t+1)).x) n hn4 Xn cn hS.1.1 hn (by rw[←hn];exact hS.1.2.symm) 3 100000 hK1 hB1.xx kD _ _ hs.g (hs.f.2.2.2.2.2.2.2.2.2.2.2.2.2.1) (hs.f.2.2.2.2.2.2.2.2.2.2.2.2.1) (hs.f.1) (hs.f.2.2.2.2.2.2.2.2.2.1)) ?_))
   rintro _ w61 h62 hs ⟨Az,cz,rfl,hcz,hAz⟩
   replace hs:=(hs.a_SlO hAz)
   refine lL hs [.m 103 107,.v 108 (.slice Az ((vec n (mv n (mA W) (cg n (mA W) b x (t+1)).x)).length) cz),.v 109 (.int .i64 0),.m 19 108,.m 20 109] (lNS (lL hs [.m 110 1,.m 111 19] (lC 112 hs (fOf (-1) oM oM _ _ hs.g) ?_)))
   rintro _ w63 h64 hs rfl
   refine lC 113 hs (cjPlus b (mv n (mA W) (cg n (mA W) b x (t+1)).x) n oM D cD Az cz ((-1:Int):Rat) 100000 100000 1 hb hB1.ax (LQ.int oM oM) oM _ _ hs.g (hs.f.2.2.2.2.2.2.2.2.2.2.2.2.1) (hs.f.1) (hs.f.2.2.2.2.2.2.2.2.2.2.1)) ?_
   rintro _ w65 h66 hs ⟨Xm,cm,rfl,hcm,hXm⟩
   replace hs:=(hs.a_SlO hXm)
   refine lL hs [.v 114 (.pointer (some ⟨b57,1,none⟩))] (lP 0 1 ([.slice Xm ((vec n (cg n (mA W) b x (t+1)).r).length) cm]) hs (fun w67 hs=>?_))
   refine lNS (lL hs [.v 116 (.pointer (some ⟨b57,1,none⟩)),.o 117 (.slice Xm ((vec n (cg n (mA W) b x (t+1)).r).length) cm) 0 1 1,.v 118 (.pointer (some ⟨b57,1,none⟩)),.o 119 (.slice Xm ((vec n (cg n (mA W) b x (t+1)).r).length) cm) 0 1 1] (lC 120 hs (cjDotV (cg n (mA W) b x (t+1)).r (cg n (mA W) b x (t+1)).r n Xm cm Xm cm 100000 100000 oM kD hB1.r hB1.r _ _ hs.g (hs.f.1) (hs.f.1) (hs.f.2.2.2.2.2.2.2.2.2.2.2.1)) ?_))
   rintro _ w68 h69 hs rfl
   refine lL hs [.m 115 120,.v 121 (qv (dt n (cg n (mA W) b x (t+1)).r (cg n (mA W) b x (t+1)).r)),.v 122 (.bool true)] (lA 21 56 ([.bool false,.int .u64 0,.string ⟨#[]⟩,.int .u64 0,.string ⟨#[]⟩]) hs (fun b70 w71 h72 hs=>?_))
   refine lP 0 0 (qc (dt n (cg n (mA W) b x (t+1)).r (cg n (mA W) b x (t+1)).r)) hs (fun w73 hs=>?_)
   refine lL hs [.m 22 122] (lNS (lL hs [.o 124 (qv (dt n (cg n (mA W) b x (t+1)).r (cg n (mA W) b x (t+1)).r)) 0 0 5,.o 125 (qv (dt n (cg n (mA W) b x t).r (cg n (mA W) b x t).r)) 4 0 5] (lC 126 hs (fDivN (dt n (cg n (mA W) b x (t+1)).r (cg n (mA W) b x (t+1)).r) (dt n (cg n (mA W) b x t).r (cg n (mA W) b x t).r) (hB1.rr.mono oM) (hBt.rr.mono oM) (fun e_=>hgo.1 (Rat.num_eq_zero.1 e_)) _ _ hs.g (hs.f.2.2.2.2.2.2.2.2.2.2.2.1)) ?_)))
   rintro _ w74 h75 hs rfl
   refine lL hs [.m 123 126,.v 127 (qv ((dt n (cg n (mA W) b x (t+1)).r (cg n (mA W) b x (t+1)).r)/(dt n (cg n (mA W) b x t).r (cg n (mA W) b x t).r))),.v 128 (.bool true)] (lA 23 56 ([.bool false,.int .u64 0,.string ⟨#[]⟩,.int .u64 0,.string ⟨#[]⟩]) hs (fun b76 w77 h78 hs=>?_))
   refine lP 0 0 (qc ((dt n (cg n (mA W) b x (t+1)).r (cg n (mA W) b x (t+1)).r)/(dt n (cg n (mA W) b x t).r (cg n (mA W) b x t).r))) hs (fun w79 hs=>?_)
   refine lL hs [.m 24 128] (lN (cTo [(0,.slice A us.length cap),(1,.slice D ((vec n b).length) cD),(10,.slice (some ⟨bR25,0,none⟩) ((al).length) sac),(11,.pointer (some ⟨b27,0,none⟩)),(18,.pointer (some ⟨b57,0,none⟩)),(23,.pointer (some ⟨b76,0,none⟩))] ?_))
   refine cSL (lL hs [.v 129 (.pointer (some ⟨b57,1,none⟩)),.o 130 (.slice Xm ((vec n (cg n (mA W) b x (t+1)).r).length) cm) 2 1 1,.v 131 (.pointer (some ⟨b27,2,none⟩)),.o 132 (.slice Aw ((vec n (cg n (mA W) b x t).w).length) cw) 6 2 1,.o 133 (qv ((dt n (cg n (mA W) b x (t+1)).r (cg n (mA W) b x (t+1)).r)/(dt n (cg n (mA W) b x t).r (cg n (mA W) b x t).r))) 0 0 5] (lC 134 hs (cjPlus (cg n (mA W) b x (t+1)).r (cg n (mA W) b x t).w n oM Xm cm Aw cw ((dt n (cg n (mA W) b x (t+1)).r (cg n (mA W) b x (t+1)).r)/(dt n (cg n (mA W) b x t).r (cg n (mA W) b x t).r)) 100000 100000 200000 hB1.r hBt.w (hB1.rr.div hBt.rr) oM _ _ hs.g (hs.f.1) (hs.f.2.2.2.2.2.1) (hs.f.2.2.2.2.2.2.2.2.2.2.2.1)) ?_))
   rintro _ w80 h81 hs ⟨Xv,cv,rfl,hcv,hXv⟩
   replace hs:=(hs.a_SlO hXv)
   refine lL hs [.v 135 (.pointer (some ⟨b57,2,none⟩))] (lP 2 2 ([.slice Xv ((vec n (cg n (mA W) b x (t+1)).w).length) cv]) hs (fun w82 hs=>?_))
   refine lN (CG.listed (lL hs [.m 136 10,.o 137 (.agg #[.slice Xn ((vec n (cg n (mA W) b x (t+1)).x).length) cn,.slice Xm ((vec n (cg n (mA W) b x (t+1)).r).length) cm,.slice Xv ((vec n (cg n (mA W) b x (t+1)).w).length) cv]) 2 0 3] (lR 138 43 1 ([.slice Xn ((vec n (cg n (mA W) b x (t+1)).x).length) cn,.slice Xm ((vec n (cg n (mA W) b x (t+1)).r).length) cm,.slice Xv ((vec n (cg n (mA W) b x (t+1)).w).length) cv]) hs (fun b83 w84 h85 hs=>?_))))
   refine lY 139 0 43 3 sac (some ⟨bR25,0,none⟩) al tvc ((.slice Xn ((vec n (cg n (mA W) b x (t+1)).x).length) cn,.slice Xm ((vec n (cg n (mA W) b x (t+1)).r).length) cm,.slice Xv ((vec n (cg n (mA W) b x (t+1)).w).length) cv):TV) 72 b83 (.agg #[.slice none 0 0,.slice none 0 0,.slice none 0 0]) hs (hs.f.1) (fun A87 c88 w89 h90 hs=>?_)
   refine lL hs [.m 10 139] (lD ?_)
   intro a_ ka
   have q92:SlO 5 qc 0 h90 Xn (vec n (cg n (mA W) b x (t+1)).x):=(hs.f.2.2.2.2.1)
   have q93:SlO 5 qc 0 h90 Xm (vec n (cg n (mA W) b x (t+1)).r):=(hs.f.2.2.1)
   have q94:SlO 5 qc 0 h90 Xv (vec n (cg n (mA W) b x (t+1)).w):=(hs.f.2.1)
   have q95:CTr n (mA W) b x h90 (al++[((.slice Xn ((vec n (cg n (mA W) b x (t+1)).x).length) cn,.slice Xm ((vec n (cg n (mA W) b x (t+1)).r).length) cm,.slice Xv ((vec n (cg n (mA W) b x (t+1)).w).length) cv):TV)]):=((hs.f.2.2.2.2.2.2.2.2.1).snoc (by rw[ht];exact ⟨⟨_,_,rfl,(hs.f.2.2.2.2.1)⟩,⟨_,_,rfl,(hs.f.2.2.1)⟩,⟨_,_,rfl,(hs.f.2.1)⟩⟩))
   have q96:(al++[((.slice Xn ((vec n (cg n (mA W) b x (t+1)).x).length) cn,.slice Xm ((vec n (cg n (mA W) b x (t+1)).r).length) cm,.slice Xv ((vec n (cg n (mA W) b x (t+1)).w).length) cv):TV)]).length=(t+1)+1:=(by rw[List.length_append,ht];rfl)
   have q97:(al++[((.slice Xn ((vec n (cg n (mA W) b x (t+1)).x).length) cn,.slice Xm ((vec n (cg n (mA W) b x (t+1)).r).length) cm,.slice Xv ((vec n (cg n (mA W) b x (t+1)).w).length) cv):TV)]).getD (t+1) tv0=(.slice Xn (vec n (cg n (mA W) b x (t+1)).x).length cn,.slice Xm (vec n (cg n (mA W) b x (t+1)).r).length cm,.slice Xv (vec n (cg n (mA W) b x (t+1)).w).length cv):=(by rw[getD_snoc,if_neg oM,if_pos oM])
   have q98:∀ i,i<(t+1)→dt n (cg n (mA W) b x i).r (cg n (mA W) b x i).r≠0∧0<(dt n (cg n (mA W) b x i).w (mv n (mA W) (cg n (mA W) b x i).w)).num:=hg1
   replace hs:=((((hs.tl.tl.tl.tl.tl.tl.tl.tl.tl.add (K:=fun h_=>CTr n (mA W) b x h_ (al++[((.slice Xn ((vec n (cg n (mA W) b x (t+1)).x).length) cn,.slice Xm ((vec n (cg n (mA W) b x (t+1)).r).length) cm,.slice Xv ((vec n (cg n (mA W) b x (t+1)).w).length) cv):TV)])) q95).add (K:=fun h_=>SlO 5 qc 0 h_ Xv (vec n (cg n (mA W) b x (t+1)).w)) q94).add (K:=fun h_=>SlO 5 qc 0 h_ Xm (vec n (cg n (mA W) b x (t+1)).r)) q93).add (K:=fun h_=>SlO 5 qc 0 h_ Xn (vec n (cg n (mA W) b x (t+1)).x)) q92)
   replace hs:=hs.drop 7 0
   refine ⟨_,_,?_,⟨t+1,A87,c88,al++[((.slice Xn ((vec n (cg n (mA W) b x (t+1)).x).length) cn,.slice Xm ((vec n (cg n (mA W) b x (t+1)).r).length) cm,.slice Xv ((vec n (cg n (mA W) b x (t+1)).w).length) cv):TV)],Xn,cn,Xm,cm,Xv,cv,h90,rfl,rfl,hs.to _ _,q96,q97,q98⟩,ka.to [(0,.slice A us.length cap),(1,.slice D ((vec n b).length) cD),(10,.slice A87 (((al++[((.slice Xn ((vec n (cg n (mA W) b x (t+1)).x).length) cn,.slice Xm ((vec n (cg n (mA W) b x (t+1)).r).length) cm,.slice Xv ((vec n (cg n (mA W) b x (t+1)).w).length) cv):TV)])).length) c88)] kR⟩
   omega
  have phb48:=oT hb48
  refine lB 89 hb48 ?_
  exact lN (cIT (cSL (lL hs [.v 6 (.slice none 0 0),.v 7 (.int .i64 9)] (lN (CG.ret (hs.ret [] (.tuple #[.slice none 0 0,.int .i64 9]) (⟨t,9,none,0,[],⟨hg,.inr ⟨rfl,cj_nz oM,cj_np oM⟩⟩,rfl,SlO.nil,CTr.nil,by rw[if_neg kD];rfl⟩)))))))
 have phb39:=eq_of_beq hb39
 refine lB 78 hb39 ?_
 refine lN (cIT (cSL ?_))
 obtain ⟨h99,hs,hc100⟩:=hs.pubr 0 (A:=some ⟨bR25,0,none⟩) (c:=sac) (l:=al) (f:=tvc) (ty:=43) (sz:=3) tv0 (fun _=>rfl)
 exact lL hs [.m 79 10,.m 6 79,.v 7 (.int .i64 0)] (lN (CG.ret (hs.ret [] (.tuple #[.slice (some ⟨bR25,0,none⟩) ((al).length) sac,.int .i64 0]) (⟨t,0,_,_,al,⟨hg,.inl ⟨rfl,cj_z oM⟩⟩,rfl,(hs.f.1),(hs.f.2.2.2.2.1),by rw[if_pos rfl];exact ht⟩))))
theorem cConjE (A:Option Addr)(cap:Nat)(us:List Value)(W:List (List Rat))(hl:W.length≤1000)(hls:∀ i,i<W.length→(W.getD i []).length≤1000)(D:Option Addr)(cD:Nat)(bl:List Rat)(X:Option Addr)(cX:Nat)(xl:List Rat)(hbl:bl.length≤1000)(hxl:xl.length≤1000)(hq:∀ i j,LQ 100000000 ((W.getD i []).getD j 0))(hE:¬SymP W∨bl.length≠W.length∨xl.length≠W.length)(w:World)(h:Hp)(g:G w h)(hA:SlO 1 vc undef h A us)(hU:QVs h us W)(hD:SlO 5 qc 0 h D bl)(hX:SlO 5 qc 0 h X xl)(tb:Tab h) :
    Calls Tryz.prog 8 #[.slice A us.length cap,.slice D bl.length cD,.slice X xl.length cX] w (Ret w h fun v _=>v=.tuple #[.slice none 0 0,.int .i64 (cjE W bl xl)]):=by
 have hs:=SS.start g
 replace hs:=(((((hs.a_SlO hA).add (K:=fun h_=>QVs h_ us W) hU).a_SlO hD).a_SlO hX).add (K:=fun h_=>Tab h_) tb)
 have hlu:=(hs.f.2.2.2.1).len
 refine go Tryz.func8 [(0,.slice A us.length cap),(1,.slice D bl.length cD),(2,.slice X xl.length cX)] rfl ?_
 refine cSL (lL hs [.v 6 (.slice none 0 0),.v 7 (.int .i64 0)] (lN (CG.seq (cSL (lL hs [.m 25 0] (lC 26 hs (mSquare A cap us W hl hls _ _ hs.g (hs.f.2.2.2.2.1) (hs.f.2.2.2.1)) ?_))))))
 rintro _ w1 h2 hs rfl
 cases hb3:(sqq W)
 ·
  refine lL hs [.v 27 (.bool true),.m 28 27] (lG 29 ?_)
  refine lG 30 ?_
  refine lG 31 ?_
  refine lG 32 ?_
  refine lG 33 ?_
  refine lL hs [.v 34 (.bool true),.m 35 34] (lG 36 ?_)
  refine lG 37 ?_
  refine lG 38 ?_
  refine lG 39 ?_
  refine lG 40 ?_
  exact lL hs [.v 41 (.bool true)] (lN (cIT (cSL (lL hs [.v 6 (.slice none 0 0),.v 7 (.int .i64 5)] (lN (CG.ret (hs.ret [] (.tuple #[.slice none 0 0,.int .i64 5]) (by rw[cjE_5 (by first|exact .inl (sq_not aM)|exact .inr oM)]))))))))
 refine lL hs [.v 27 (.bool false),.m 28 27,.m 29 1,.v 30 (.int .i64 (bl.length:Nat)),.m 31 0,.v 32 (.int .i64 (us.length:Nat))] ?_
 cases hb4:(((bl.length:Nat):Int) != ((us.length:Nat):Int))
 ·
  have phb4:=eqOfBne hb4
  refine lB 33 hb4 ?_
  refine lL hs [.v 34 (.bool false),.m 35 34,.m 36 2,.v 37 (.int .i64 (xl.length:Nat)),.m 38 0,.v 39 (.int .i64 (us.length:Nat))] ?_
  cases hb5:(((xl.length:Nat):Int) != ((us.length:Nat):Int))
  ·
   have phb5:=eqOfBne hb5
   refine lB 40 hb5 ?_
   refine lL hs [.v 41 (.bool false)] (lN (cIF (CG.skipN (CG.seq (cSL (lL hs [.m 42 0] (lC 43 hs (mSym A cap us W hl hls hq _ _ hs.g (hs.f.2.2.2.2.1) (hs.f.2.2.2.1)) ?_)))))))
   rintro _ w6 h7 hs rfl
   have hb8:(symq W)=false:=sym_f (fun h_=>by rcases hE with e_|e_|e_;exact e_ h_;all_goals omega)
   rw[hb8]
   exact lL hs [.v 44 (.bool true)] (lN (cIT (cSL (lL hs [.v 6 (.slice none 0 0),.v 7 (.int .i64 10)] (lN (CG.ret (hs.ret [] (.tuple #[.slice none 0 0,.int .i64 10]) (by rw[cjE_10 ⟨sq_is aM,by omega,by omega⟩]))))))))
  have phb5:=neOfBne hb5
  refine lB 40 hb5 ?_
  exact lL hs [.v 41 (.bool true)] (lN (cIT (cSL (lL hs [.v 6 (.slice none 0 0),.v 7 (.int .i64 5)] (lN (CG.ret (hs.ret [] (.tuple #[.slice none 0 0,.int .i64 5]) (by rw[cjE_5 (by first|exact .inl (sq_not aM)|exact .inr oM)]))))))))
 have phb4:=neOfBne hb4
 refine lB 33 hb4 ?_
 refine lL hs [.v 34 (.bool true),.m 35 34] (lG 36 ?_)
 refine lG 37 ?_
 refine lG 38 ?_
 refine lG 39 ?_
 refine lG 40 ?_
 exact lL hs [.v 41 (.bool true)] (lN (cIT (cSL (lL hs [.v 6 (.slice none 0 0),.v 7 (.int .i64 5)] (lN (CG.ret (hs.ret [] (.tuple #[.slice none 0 0,.int .i64 5]) (by rw[cjE_5 (by first|exact .inl (sq_not aM)|exact .inr oM)]))))))))
section ro
variable {w0:World} {h0:Hp} {w:World} {h:Hp} {B:List Bx} {R:List Rw} {F:List (Hp→Prop)}
theorem SS.ro_jk (s:SS w0 h0 w h B R F)(j:Nat){ty:TypeId}{sz c m:Nat}{A:Option Addr}{cs:List Value}(hr:R.getD j default=⟨ty,sz,A,c,m,cs⟩:=by kernel_rfl)(hj:decide (j<R.length)=true:=by kernel_rfl):∀ b∈(Value.slice A m c).ownBlock.toList,h[b]?=some junk:=fun b hb=>by
  have hj':=oT hj
  have r:=s.ro _ (List.getElem_mem hj')
  rw[rw_get hr hj'] at r
  exact r.jk b (Option.mem_toList.1 hb)
theorem SS.ro_lt (s:SS w0 h0 w h B R F)(j:Nat){ty:TypeId}{sz c m:Nat}{A:Option Addr}{cs:List Value}(hr:R.getD j default=⟨ty,sz,A,c,m,cs⟩:=by kernel_rfl)(hj:decide (j<R.length)=true:=by kernel_rfl):∀ b∈(Value.slice A m c).ownBlock.toList,b<h.size:=fun b hb=>by
  have hj':=oT hj
  have r:=s.ro _ (List.getElem_mem hj')
  rw[rw_get hr hj'] at r
  exact lt_of_some (r.jk b (Option.mem_toList.1 hb))
theorem SS.ro_ne (s:SS w0 h0 w h B R F)(q j:Nat){ty:TypeId}{sz c m:Nat}{A:Option Addr}{cs:List Value}(hq:decide (q<B.length)=true:=by kernel_rfl)(hr:R.getD j default=⟨ty,sz,A,c,m,cs⟩:=by kernel_rfl)(hj:decide (j<R.length)=true:=by kernel_rfl):(bxAt B q).b ∉ (Value.slice A m c).ownBlock.toList:=fun hb=>by
  have hj':=oT hj
  have r:=s.ro _ (List.getElem_mem hj')
  rw[rw_get hr hj'] at r
  exact r.ap _ (Option.mem_toList.1 hb) (List.mem_map.2 ⟨_,bxAt_mem (oT hq),rfl⟩)
end ro
theorem vec_step {h:Hp}{ts:List RT}{k:Nat}{f:Nat→Rat}(x:RTs h ts (vec k f)){t:RT}(hq:RQ h (rtv t) (f k)):RTs h (ts++[t]) (vec (k+1) f):=by
  unfold vec
  rw[List.range_succ,List.map_append]
  exact x.snoc hq
theorem rRightT (A:Option Addr)(cap:Nat)(us:List Value)(W:List (List Rat))(hl:W.length≤1000000)(hls:∀ i,i<W.length→(W.getD i []).length≤1000000)(hR:RightP W)(w:World)(h:Hp)(g:G w h)(hA:SlO 1 vc undef h A us)(hU:RVs h us W):Calls Tryz.prog 69 #[.slice A us.length cap] w (Ret w h fun v _=>v=.bool true):=by
  have x:=rRightG A cap us W hl hls w h g hA hU
  rw[←rq_t hR] at x
  exact x
theorem rDotV (u v:Nat→Rat)(n:Nat)(A:Option Addr)(ca:Nat)(ta:List RT)(X:Option Addr)(cX:Nat)(tx:List RT)(K1 K2:Nat)(hn4:n≤5)(hb:K1+K2≤1000000)(hK1:∀ i,i<n→LQ K1 (u i))(hK2:∀ i,i<n→LQ K2 (v i))(w:World)(h:Hp)(g:G w h)(hA:SlO 3 rqc rqd h A ta)(hT:RTs h ta (vec n u))(hX:SlO 3 rqc rqd h X tx)(hTX:RTs h tx (vec n v)) :
    Calls Tryz.prog 42 #[.slice A ta.length ca,.slice X tx.length cX] w (Ret w h fun r h1=>RQ h1 r (dt n u v)):=by
  have x_:=rDot A ca (vec n u) ta X cX (vec n v) tx K1 K2 (by rw[vec_len,vec_len];exact Nat.le_refl _) (by rw[vec_len];omega) (by rw[vec_len];have:=lq_sum4 (n:=n) (a:=K1+K2+1) oM oM;omega) (fun i hi=>by rw[vec_len] at hi;rw[vec_get u hi];exact hK1 i hi) (fun i hi=>by rw[vec_len] at hi;rw[vec_get v hi];exact hK2 i hi) w h g hA hT hX hTX
  rw[vec_len n u,dot_dt n (u:=u) (v:=v) (fun i hi=>vec_get u hi) (fun i hi=>vec_get v hi)] at x_
  exact x_
def Tw (D E:Nat)(q:Rat):Prop:=∃ N:Int,N.natAbs≤E∧q*((D:Nat):Rat)=(N:Rat)
theorem Tw.zero {D E:Nat}:Tw D E 0:=⟨0,Nat.zero_le _,by rw[Rat.zero_mul];rfl⟩
theorem Tw.mono {D E F:Nat}{q:Rat}(x:Tw D E q)(h:E≤F):Tw D F q:=by
  obtain ⟨N,a,b⟩:=x
  exact ⟨N,Nat.le_trans a h,b⟩
theorem Tw.one {D E:Nat}(h:D≤E):Tw D E 1:=⟨(D:Int),by simpa using h,by rw[Rat.one_mul,Rat.intCast_natCast]⟩
theorem Tw.add {D E F:Nat}{p q:Rat}(x:Tw D E p)(y:Tw D F q):Tw D (E+F) (p+q):=by
  obtain ⟨N,a,b⟩:=x
  obtain ⟨M,c,d⟩:=y
  exact ⟨N+M,Nat.le_trans (Int.natAbs_add_le _ _) oM,by rw[Rat.intCast_add,←b,←d];grind⟩
theorem Tw.mul {D E F G:Nat}{p q:Rat}(x:Tw D E p)(y:Tw F G q):Tw (D*F) (E*G) (p*q):=by
  obtain ⟨N,a,b⟩:=x
  obtain ⟨M,c,d⟩:=y
  exact ⟨N*M,by rw[Int.natAbs_mul];exact Nat.mul_le_mul a c,by rw[Rat.intCast_mul,←b,←d,Rat.natCast_mul];grind⟩
theorem Tw.dt {D E F G:Nat}{u v:Nat→Rat}(hu:∀ i,Tw D E (u i))(hv:∀ i,Tw F G (v i)):∀ n,Tw (D*F) (n*(E*G)) (dt n u v)
  | 0=>by rw[Nat.zero_mul];exact Tw.zero
  | n+1=>by
    have h:=(Tw.dt hu hv n).add ((hu n).mul (hv n))
    rw[Nat.succ_mul];exact h
theorem tw_hand (z:Int):Tw 12 240 (handRq z):=by
  have hl:=pick_lt z 41 oM
  unfold handRq
  generalize pick z 41=k at *
  have hd:dDen (pick (z.tdiv 41) 6)=1∨dDen (pick (z.tdiv 41) 6)=2∨dDen (pick (z.tdiv 41) 6)=3∨dDen (pick (z.tdiv 41) 6)=4:=by
    unfold dDen;split<;>simp
  generalize dDen (pick (z.tdiv 41) 6)=d at *
  have key:∀ m:Nat,m*d=12→Tw 12 240 (mkR ((k:Int)-20) (d:Nat)):=fun m hm=>by
    have hd0:((d:Nat):Int)≠0:=by omega
    have hd1:((d:Nat):Rat)≠0:=by simp;omega
    refine ⟨((k:Int)-20)*(m:Nat),?_,?_⟩
    · rw[Int.natAbs_mul,Int.natAbs_natCast]
      have h1:((k:Int)-20).natAbs≤20:=by omega
      have h2:m≤12:=by
        rcases hd with e|e|e|e<;>subst e<;>omega
      exact Nat.mul_le_mul h1 h2
    · rw[mkR_eq _ _ hd0,←hm,Rat.natCast_mul,Rat.intCast_mul,Rat.intCast_natCast,Rat.intCast_natCast]
      generalize (((k:Int)-20:Int):Rat)=a
      generalize ((d:Nat):Rat)=y at *
      generalize ((m:Nat):Rat)=x
      grind
  rcases hd with e|e|e|e
  · exact key 12 oM
  · exact key 6 oM
  · exact key 4 oM
  · exact key 3 oM
theorem tw_row (zs:List Int):∀ n i,Tw 12 240 ((rowq zs n).getD i 0)
  | 0,i=>Tw.zero
  | n + 1,i=>by
    show Tw 12 240 ((rowq zs n++[_]).getD i 0)
    rw[getD_snoc]
    split
    · exact tw_row zs n i
    · split
      · split
        · exact tw_hand _
        · exact Tw.zero
      · exact Tw.zero
theorem cd_row (zs:List Int)(n m:Nat):CD m 8 (fun i=>(rowq zs n).getD i 0):=⟨12,by decide,by decide,fun i _=>by
  obtain ⟨N,a,b⟩:=tw_row zs n i
  exact ⟨N,Nat.le_trans a kD,b⟩⟩
def matf (n:Nat)(f:Nat→Nat→Rat):List (List Rat):=(List.range n).map fun i=>vec n (f i)
theorem matf_len (n:Nat)(f:Nat→Nat→Rat):(matf n f).length=n:=by simp[matf]
theorem matf_row {n i:Nat}(f:Nat→Nat→Rat)(h:i<n):(matf n f).getD i []=vec n (f i):=by simp[matf,h]
theorem matf_get {n i j:Nat}(f:Nat→Nat→Rat)(h:i<n)(h2:j<n):((matf n f).getD i []).getD j 0=f i j:=by rw[matf_row f h,vec_get _ h2]
theorem matf_out {n i:Nat}(f:Nat→Nat→Rat)(h:n≤i):(matf n f).getD i []=[]:=by simp[matf,h]
theorem vec_out {n i:Nat}(f:Nat→Rat)(h:n≤i):(vec n f).getD i 0=0:=by simp[vec,h]
theorem matf_congr {n:Nat}{f g:Nat→Nat→Rat}(h:∀ i,i<n→∀ j,j<n→f i j=g i j):matf n f=matf n g:=by
  unfold matf
  exact List.map_congr_left (fun i hi=>vec_congr (h i (by simpa using hi)))
theorem matf_right {n:Nat}(f:Nat→Nat→Rat)(h:0<n):RightP (matf n f):=⟨by rw[matf_len];exact h,by rw[matf_row f h,vec_len];exact h,fun i hi=>by rw[matf_len] at hi;rw[matf_row f hi,matf_row f h,vec_len,vec_len]⟩
structure Dfn (n:Nat) (W:List (List Rat)):Prop where
  len:W.length=n
  wd:∀ i,(W.getD i []).length≤n
  e:∀ i j,Tw 144 262144 ((W.getD i []).getD j 0)
theorem Dfn.matf {n:Nat}{f:Nat→Nat→Rat}(h:∀ i j,Tw 144 262144 (f i j)):Dfn n (matf n f):=by
  refine ⟨matf_len n f,fun i=>?_,fun i j=>?_⟩
  · by_cases hi:i<n
    · rw[matf_row f hi,vec_len];exact Nat.le_refl _
    · rw[matf_out f oM];exact Nat.zero_le _
  · by_cases hi:i<n
    · by_cases hj:j<n
      · rw[matf_get f hi hj];exact h i j
      · rw[matf_row f hi,vec_out _ oM];exact Tw.zero
    · rw[matf_out f oM];exact Tw.zero
theorem Dfn.md {n m:Nat}{W:List (List Rat)}(h:Dfn n W):MD m 18 (mA W):=⟨144,by decide,by decide,fun i _ j _=>by
  obtain ⟨N,a,b⟩:=h.e i j
  exact ⟨N,a,b⟩⟩
theorem Dfn.lq {n:Nat}{W:List (List Rat)}(h:Dfn n W)(i j:Nat):LQ 3 ((W.getD i []).getD j 0):=by
  obtain ⟨N,a,b⟩:=h.e i j
  exact (SD.lq (e:=18) (k:=1) ⟨N,144,by decide,by decide,a,b⟩ kD).mono kD
theorem getD_drop1 {α:Type}{d:α}(l:List α)(j:Nat):(l.drop 1).getD j d=l.getD (1+j) d:=by rw[List.getD_eq_getElem?_getD,List.getElem?_drop,←List.getD_eq_getElem?_getD]
theorem getD_setl {α:Type}{d:α}(l:List α)(k i:Nat)(x:α):(l.set k x).getD i d=if k=i∧k<l.length then x else l.getD i d:=by
  rw[List.getD_eq_getElem?_getD,List.getD_eq_getElem?_getD,List.getElem?_set]
  by_cases e:k=i
  · subst e
    by_cases h:k<l.length
    · simp[h]
    · simp[h]
  · simp[e]
theorem Dfn.put {n:Nat}{W:List (List Rat)}(h:Dfn n W)(at_:Nat){q:Rat}(hq:Tw 144 262144 q):Dfn n (W.set at_ ((W.getD at_ []).set 0 q)):=by
  refine ⟨by rw[List.length_set];exact h.len,fun i=>?_,fun i j=>?_⟩
  · rw[getD_setl]
    split
    · rw[List.length_set];exact h.wd _
    · exact h.wd i
  · rw[getD_setl]
    split
    · rw[getD_setl]
      split
      · exact hq
      · exact h.e _ _
    · exact h.e i j
theorem Dfn.cut {n:Nat}{W:List (List Rat)}(h:Dfn n W)(at_:Nat):Dfn n (W.set at_ ((W.getD at_ []).drop 1)):=by
  refine ⟨by rw[List.length_set];exact h.len,fun i=>?_,fun i j=>?_⟩
  · rw[getD_setl]
    split
    · rw[List.length_drop];have:=h.wd at_;omega
    · exact h.wd i
  · rw[getD_setl]
    split
    · rw[getD_drop1];exact h.e _ _
    · exact h.e i j
theorem tw_hand144 (z:Int):Tw 144 262144 (handRq z):=by
  obtain ⟨N,a,b⟩:=tw_hand z
  refine ⟨N*12,by rw[Int.natAbs_mul];exact Nat.le_trans (Nat.mul_le_mul_right _ a) kD,?_⟩
  rw[show (144:Nat)=12*12 from rfl,Rat.natCast_mul,Rat.intCast_mul,←b]
  rw[show (((12:Int):Rat))=((12:Nat):Rat) from rfl];grind
def rawf (zs:List Int)(n:Nat):Nat→Nat→Rat:=fun i j=>(rowq (zs.drop (min zs.length (i*n))) n).getD j 0
theorem tw_raw (zs:List Int)(n i j:Nat):Tw 12 240 (rawf zs n i j):=tw_row _ _ _
def gram (zs:List Int)(n:Nat):Nat→Nat→Rat:=fun i k=>dt n (rawf zs n i) (rawf zs n k)
def eyef:Nat→Nat→Rat:=fun i j=>if j=i then 1 else 0
theorem tw_gram {n:Nat}(hn:n≤4)(zs:List Int)(i k:Nat):Tw 144 230400 (gram zs n i k) :=
  (Tw.dt (fun j=>tw_raw zs n i j) (fun j=>tw_raw zs n k j) n).mono (Nat.mul_le_mul_right (240*240) hn)
theorem tw_eye (i j:Nat):Tw 144 144 (eyef i j):=by
  unfold eyef
  split
  · exact Tw.one (Nat.le_refl _)
  · exact Tw.zero
theorem dfn_gram {n:Nat}(hn:n≤4)(zs:List Int):Dfn n (Go.Proofs.YtnbjahmpennmkaaGreatDoor.matf n (gram zs n)):=Dfn.matf fun i j=>(tw_gram hn zs i j).mono kD
theorem dfn_more {n:Nat}(hn:n≤4)(zs:List Int):Dfn n (Go.Proofs.YtnbjahmpennmkaaGreatDoor.matf n fun i j=>gram zs n i j+eyef i j):=Dfn.matf fun i j=>((tw_gram hn zs i j).add (tw_eye i j)).mono kD
theorem hcell_some {h:Hp}{b i:Nat}{v:Value}(e:hcell h b i=some v):∃ c t g,h[b]?=some (.cells c t g)∧c[i]?=some v:=by
  unfold hcell at e
  cases hb:h[b]? with
  | none=>rw[hb] at e;cases e
  | some o =>
    rw[hb] at e
    cases o with
    | cells c t g=>exact ⟨c,t,g,rfl,e⟩
    | _=>cases e
theorem hcell_junk {h:Hp}{b i:Nat}(j:h[b]?=some junk):hcell h b i=none:=by
  unfold hcell;rw[j];simp[junk]
def slB:Value→Nat
  | .slice (some a) _ _=>a.block
  | _=>0
structure Whole (lo:Nat) (h:Hp) (b:Nat) (ty:TypeId) (vs:List Value):Prop where
  lo:lo≤b
  ty0:(ty == 0)=false
  at_:h[b]?=some (.cells vs.toArray ty (0,0))
theorem Whole.gw {lo:Nat}{h h':Hp}{b:Nat}{ty:TypeId}{vs:List Value}(x:Whole lo h b ty vs)(u:Gw h h'):Whole lo h' b ty vs:=by
  refine ⟨x.lo,x.ty0,?_⟩
  rcases u.blk b (lt_of_some x.at_) with e|e
  · rw[e];exact x.at_
  · have h1:=x.at_
    rw[e] at h1
    injection h1 with h1
    unfold junk at h1
    injection h1 with h2 h3 h4
    have:=x.ty0
    rw[←h3] at this
    cases this
theorem Whole.nj {lo:Nat}{h:Hp}{b:Nat}{ty:TypeId}{vs:List Value}(x:Whole lo h b ty vs):h[b]?≠some junk:=fun e=>by
  have h1:=x.at_
  rw[e] at h1
  injection h1 with h1
  unfold junk at h1
  injection h1 with h2 h3 h4
  have:=x.ty0
  rw[←h3] at this
  cases this
section ss
variable {w0:World} {h0:Hp} {w:World} {h:Hp} {B:List Bx} {R:List Rw} {F:List (Hp→Prop)}
theorem SS.pubrS (s:SS w0 h0 w h B R F)(j:Nat){ty:TypeId}{sz c:Nat}{A:Option Addr}{α:Type}{f:α→List Value}{l:List α}(d:α)(hf:∀ x,(f x).length=sz)(hpos:0<l.length)(hsz:0<sz)(hr:R.getD j default=⟨ty,sz,A,c,l.length,l.flatMap f⟩:=by kernel_rfl)(hj:decide (j<R.length)=true:=by kernel_rfl)(hty:(ty == 0)=false:=by kernel_rfl) :
    ∃ h' b sp,A=some ⟨b,0,none⟩∧h[b]?=some junk∧SS w0 h0 w h' B (R.eraseIdx j) ((fun h=>Whole h0.size h b ty (l.flatMap f++sp))::(fun h=>SlO sz f d h A l)::F)∧l.length≤c:=by
  have hj':=oT hj
  have e0:R[j]=⟨ty,sz,A,c,l.length,l.flatMap f⟩:=by rw[←hr];simp[hj']
  have r0:=s.ro _ (List.getElem_mem hj')
  rw[e0] at r0
  obtain ⟨h',s',hc⟩:=s.pubr j (A:=A) (c:=c) (l:=l) (f:=f) (ty:=ty) (sz:=sz) d hf hr hj
  rcases r0.own with ⟨h1,⟨e,e2⟩|⟨b,cap',cur,e,hbb,hg,hn,hm,hs,ht⟩⟩
  · have:l.length=0:=e2
    omega
  · have e':Value.slice A l.length c=.slice (some ⟨b,0,none⟩) l.length cap':=e
    injection e' with e1 e2 e3
    have hjk:=r0.jk b (by show (Value.slice A l.length c).ownBlock=some b;rw[e1];rfl)
    have hsl:=s'.f.1
    have hcell:hcell h' b 0≠none:=fun hn0=>by
      have h2:=hsl.el 0 hpos 0 ((f (l.getD 0 d)).get ⟨0,by rw[hf];exact hsz⟩) (by simp[hf,hsz])
      rw[e1,show aO (some ⟨b,0,none⟩)+0*sz+0=0 from by rw[Nat.zero_mul];rfl] at h2
      exact absurd (hn0.symm.trans h2) (by simp)
    have hb':h'[b]?=w.heap[b]?:=by
      rcases s'.g.blk b with e4|e4
      · exact e4
      · exact absurd (hcell_junk e4) hcell
    refine ⟨h',b,cur.toList.drop (l.length*sz),e1,hjk,s'.add (K:=fun h=>Whole h0.size h b ty (l.flatMap f++cur.toList.drop (l.length*sz))) ⟨hbb,hty,?_⟩,hc⟩
    rw[hb',hg]
    have:l.flatMap f++cur.toList.drop (l.length*sz)=cur.toList:=by
      have ht':cur.toList.take (l.length*sz)=l.flatMap f:=ht
      rw[←ht'];exact List.take_append_drop _ _
    rw[this]
theorem SS.grab (s:SS w0 h0 w h B R F){b:Nat}{ty:TypeId}{vs:List Value}(x:Whole h0.size h b ty vs):SS w0 h0 w (h.setIfInBounds b junk) (⟨b,ty,vs⟩::B) R []:=by
  have hlt:=lt_of_some x.at_
  have hown:Own w b ty vs:=by
    rcases s.g.blk b with e|e
    · exact e.symm.trans x.at_
    · exact absurd e x.nj
  have hne:∀ c,h[c]?=some junk→c≠b:=fun c hc e=>x.nj (e▸hc)
  refine ⟨s.g0,⟨⟨s.st.up.ext,⟨by simp;exact s.st.up.gr.size,fun c hc=>?_⟩,⟨by simp;exact s.st.up.g.size,fun c=>?_⟩⟩,?_,?_,?_,?_⟩,fun r hr=>?_,s.ap,(fun p hp=>by cases hp),trivial⟩
  · have:=x.lo
    rw[Array.getElem?_setIfInBounds_ne oM];exact s.st.up.gr.blk c hc
  · by_cases e:b=c
    · subst e;right;rw[Array.getElem?_setIfInBounds_self_of_lt hlt]
    · rw[Array.getElem?_setIfInBounds_ne e];exact s.st.up.g.blk c
  · intro y hy
    rcases List.mem_cons.1 hy with rfl|hy
    · exact hown
    · exact s.st.own y hy
  · intro y hy
    rcases List.mem_cons.1 hy with rfl|hy
    · exact Array.getElem?_setIfInBounds_self_of_lt hlt
    · rw[Array.getElem?_setIfInBounds_ne (Ne.symm (hne _ (s.st.jk y hy)))];exact s.st.jk y hy
  · intro y hy
    rcases List.mem_cons.1 hy with rfl|hy
    · exact x.lo
    · exact s.st.lo y hy
  · refine List.nodup_cons.2 ⟨fun hm=>?_,s.st.nd⟩
    obtain ⟨y,hy,he⟩:=List.mem_map.1 hm
    exact hne _ (s.st.jk y hy) he
  · have r0:=s.ro r hr
    refine ⟨r0.own,fun c hc=>?_,fun c hc hm=>?_⟩
    · rw[Array.getElem?_setIfInBounds_ne (Ne.symm (hne _ (r0.jk c hc)))];exact r0.jk c hc
    · rcases List.mem_cons.1 hm with e|hm
      · exact hne _ (r0.jk c hc) e
      · exact r0.ap c hc hm
theorem SS.pubY (s:SS w0 h0 w h B R F)(j:Nat)(hj:decide (j<B.length)=true:=by kernel_rfl):∃ h',SS w0 h0 w h' (B.eraseIdx j) R F∧h0.size≤(bxAt B j).b∧h'[(bxAt B j).b]?=some (.cells (bxAt B j).vs.toArray (bxAt B j).t (0,0))∧∀ c,c≠(bxAt B j).b→h'[c]?=h[c]?:=by
  have hj':=oT hj
  obtain ⟨h',s',gw,sg,hc,oth⟩:=s.st.pubX j hj'
  have hm:=bxAt_mem hj'
  refine ⟨h',⟨s.g0,s',fun r hr=>((s.ro r hr).out (List.mem_map.2 ⟨_,hm,rfl⟩) oth).sub _ (fun b hb=>?_),s.ap,s.mo,s.f.gw s.mo gw⟩,s.st.lo _ hm,hc,oth⟩
  obtain ⟨x,hx,e⟩:=List.mem_map.1 hb
  exact List.mem_map.2 ⟨x,List.mem_of_mem_eraseIdx hx,e⟩
end ss
end Go.Proofs.YtnbjahmpennmkaaGreatDoor
