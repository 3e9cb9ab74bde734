/- Laws and contracts that the card of this claim stands on, part 4. No condition of ours. -/
import Derived.Test.YtghfcfnkglnchaaGreatDoorPy0
import Derived.Test.YtghfcfnkglnchaaGreatDoorPy1
import Derived.Test.YtghfcfnkglnchaaGreatDoorPy2
set_option maxRecDepth 100000
set_option maxHeartbeats 4000000
namespace Go.Proofs.YtghfcfnkglnchaaGreatDoor
open Go.RowKit
open Go.RowKit Go.Shelf
theorem BY (a b:Rat)(ha:LQ 100000000 a)(hb:LQ 100000000 b)(hwa:a.den=1)(hwb:b.den≠1)(w:World)(h:Hp)(g:G w h)(tb:Tab h):CV 99 #[qv a,qv b] w h (qv (a+b)):=by
 have hs:=((sS g).aB tb);have ha_:=ha;have hb_:=hb;obtain ⟨ha1,ha2⟩:=ha;obtain ⟨hb1,hb2⟩:=hb;obtain ⟨q,hq⟩:∃ q,q=Nat.gcd a.den b.den:=⟨_,rfl⟩;obtain ⟨up,hup⟩:∃ up,up=a.num*((b.den/q:Nat):Int)+b.num*((a.den/q:Nat):Int):=⟨_,rfl⟩;obtain ⟨r,hr⟩:∃ r,r=Nat.gcd (aa up) q:=⟨_,rfl⟩;obtain ⟨hm1,hm2,hd1,hd2,hr0,hq0⟩:=jj a b q r up hq hup hr;have hql:(wds q).length≤100000000:=au (by rw[hq];exact Nat.gcd_le_left _ a.den_pos) ha2;have hrl:(wds r).length≤100000000:=au (by rw[hr];exact Nat.gcd_le_right _ hq0) hql;have haq:(wds (a.den/q)).length≤100000000:=au (Nat.div_le_self _ _) ha2;have hbq:(wds (b.den/q)).length≤100000000:=au (Nat.div_le_self _ _) hb2;have hbr:(wds (b.den/r)).length≤100000000:=au (Nat.div_le_self _ _) hb2;have hx1:=cG a.num (b.den/q);have hx2:=cG b.num (a.den/q);have hul:(wds (aa up)).length≤999999999:=Nat.le_trans (by rw[hup];exact mm _ _) oM;have hdl:=@cv (a.den/q) (b.den/r);have hLQ:LQ 1000000000 (a+b):=⟨by rw[hm1];exact au (bQ up r hd1) oM,by rw[hm2];omega⟩;have ha:=ha_;have hb:=hb_;refine go Tryz.func99 [(0,qv a),(1,qv b)] rfl (aA (lA 2 43 (qc a) hs (fun b1 w2 h3 hs=>lA 3 43 (qc b) hs (fun b4 w5 h6 hs=>lA 4 43 ([qF,uV 0,eS,uV 0,eS]) hs (fun b7 w8 h9 hs=>ae (ab hs [.o 10 (qv a) 2 0 5] (ah 11 hs (cY a aM aM _ _ hs.g) (fun _ _ hs=>lL hs [.m 12 11,.o 13 (qv b) 1 0 5] (ah 14 hs (ew b aM aM _ _ hs.g) (fun _ _ hs=>lL hs [.v 15 qF] (af (cK (cQ ?_)))))))))))));have hsr:=hs;refine cR 8 [⟨7,5,.cells (List.toArray [uV 0,eS]) 39 (0,0)⟩] mixed hs (bF (eP kR (fun _ _=>by kernel_rfl)) ar) (eO 0 22 [(2,0,5)] (qv a) hs (eO 3 25 [(1,0,5)] (qv b) hs (aq 1 23 hs (fun _ _ hs=>en a aM _ _ hs.g) (fun _ _ hs=>aq 2 24 hs (fun _ _ hs=>dr a.den _ _ hs.g) (fun _ _ hs=>aq 4 26 hs (fun _ _ hs=>en b aM _ _ hs.g) (fun _ _ hs=>aq 5 27 hs (fun _ _ hs=>dr b.den _ _ hs.g) (fun _ _ hs=>aq 6 28 hs (fun _ _ hs=>g7 (a.den:Int) (b.den:Int) q (by first|assumption|exact hq) (show (wds a.den).length≤1000000000 by first|assumption|omega) (show (wds b.den).length≤1000000000 by first|assumption|omega) _ _ hs.g hs.f.1) (fun _ _ hs=>gL [] hsr hs 39 [uV 0,eS] (fun _ _ b26 hs=>tP 8 0 0 (nc q) hs (fun _ hs=>tN (cQ ?_)))))))))));have hsr:=hs;refine vd 10 [⟨8,6,.cells (List.toArray [uV 0,eS]) 39 (0,0)⟩,⟨9,7,.cells (List.toArray [uV 0,eS]) 39 (0,0)⟩] [] mixed hs (bF (eP kR (fun _ _=>by kernel_rfl)) (bF (eP kR (fun _ _=>by kernel_rfl)) ar)) (eO 0 29 [(3,0,5)] (qv a) hs (eO 2 31 [(0,0,2)] (nv q) hs (rc 4 33 [(2,0,5)] (qv b) hsr hs (rc 6 35 [(0,0,2)] (nv q) hsr hs (aq 1 30 hs (fun _ _ hs=>en a aM _ _ hs.g) (fun _ _ hs=>aq 3 32 hs (fun _ _ hs=>fI a.den q aM bX bX _ _ hs.g) (fun _ _ hs=>aq 5 34 hs (fun _ _ hs=>en b aM _ _ hs.g) (fun _ _ hs=>aq 7 36 hs (fun _ _ hs=>fI b.den q aM bX bX _ _ hs.g) (fun _ _ hs=>A3 hsr hs 39 [uV 0,eS] 39 [uV 0,eS] (fun _ _ za b39 hz40 hz41 hs=>tP 10 0 0 (nc (a.den/q)) hs (fun _ hs=>?_) (hz:=gg hz40)))))))))));refine tP 11 1 0 (nc (b.den/q)) hs (fun _ hs=>?_) (hz:=gg hz41);refine tN (cQ ?_);have hsr:=hs;refine cR 10 [⟨9,8,.cells (List.toArray [qF,uV 0,eS]) 41 (0,0)⟩] mixed hs (bF (eP kR (fun _ _=>by kernel_rfl)) ar) (eV 0 37 (pB b1) (eO 1 38 [(5,0,3)] (iv a.num) hs (eO 2 39 [(1,0,2)] (nv (b.den/q)) hs (eV 4 41 (pB b4) (eO 5 42 [(4,0,3)] (iv b.num) hs (eO 6 43 [(0,0,2)] (nv (a.den/q)) hs (aq 3 40 hs (fun _ _ hs=>fy a.num (b.den/q) bX _ _ hs.g) (fun _ _ hs=>aq 7 44 hs (fun _ _ hs=>fy b.num (a.den/q) bX _ _ hs.g) (fun _ _ hs=>aq 8 45 hs (fun _ _ hs=>As (a.num*(((b.den/q):Nat):Int)) (b.num*(((a.den/q):Nat):Int)) up hup oM _ _ hs.g) (fun _ _ hs=>gL [] hsr hs 41 [qF,uV 0,eS] (fun _ _ zb hs=>tP 10 0 0 (ic up) hs (fun _ hs=>tN (cQ ?_)))))))))))));have hsr:=hs;refine cR 5 [⟨4,9,.cells (List.toArray [uV 0,eS]) 39 (0,0)⟩] mixed hs (bF (eP kR (fun _ _=>by kernel_rfl)) ar) (eO 0 46 [(0,0,3)] (iv up) hs (eO 1 47 [(3,0,2)] (nv q) hs (aq 2 48 hs (fun _ _ hs=>dr q _ _ hs.g) (fun _ _ hs=>aq 3 49 hs (fun _ _ hs=>g7 up (q:Int) r (by first|assumption|exact hr) bX (show (wds q).length≤1000000000 by first|assumption|omega) _ _ hs.g hs.f.1) (fun _ _ hs=>gL [] hsr hs 39 [uV 0,eS] (fun _ _ zc hs=>tP 5 0 0 (nc r) hs (fun _ hs=>tN (bJ [(3,pB b4),(4,pB b7),(6,pB za),(8,pB zb),(9,pB zc)] ?_))))))));refine cQ (cR 10 [] mixed hs ar ?_);exact eO 0 50 [(1,0,3)] (iv up) hs (eO 1 51 [(0,0,2)] (nv r) hs (eO 3 53 [(2,0,2)] (nv (a.den/q)) hs (eO 4 54 [(6,0,5)] (qv b) hs (eO 6 56 [(0,0,2)] (nv r) hs (aq 2 52 hs (fun _ _ hs=>jv up r aM aM bX bX _ _ hs.g) (fun _ _ hs=>aq 5 55 hs (fun _ _ hs=>en b aM _ _ hs.g) (fun _ _ hs=>aq 7 57 hs (fun _ _ hs=>fI b.den r aM bX bX _ _ hs.g) (fun _ _ hs=>aq 8 58 hs (fun _ _ hs=>mR (a.den/q) (b.den/r) bX bX _ _ hs.g) (fun _ _ hs=>aq 9 59 hs (fun _ _ hs=>iO (a+b) (up/(r:Int)) ((a.den/q)*(b.den/r)) (by first|assumption|exact hm1|exact (hm1).symm) (by first|assumption|exact hm2.symm) aM _ _ hs.g) (fun _ _ hs=>cg hs (fun _ _ hs=>tP 10 5 0 (qc (a+b)) hs (fun _ hs=>tN (kX (hs.ret [(5,0,5)] (qv (a+b)) rfl))))))))))))))
theorem Cp (a b:Rat)(ha:LQ 100000000 a)(hb:LQ 100000000 b)(w:World)(h:Hp)(g:G w h)(tb:Tab h):CV 99 #[qv a,qv b] w h (qv (a+b)):=by
 by_cases h1:a.den=1
 ·by_cases h2:b.den=1
  ·exact Bb a b ha hb h1 h2 w h g tb
  ·exact BY a b ha hb h1 h2 w h g tb
 ·exact Ca a b ha hb h1 w h g tb
theorem BV (a b:Rat)(ha:LQ 100000000 a)(hb:LQ 100000000 b)(hwa:a.den=1)(hwb:b.den=1)(w:World)(h:Hp)(g:G w h)(tb:Tab h):CV 101 #[qv a,qv b] w h (qv (a*b)):=by
 have hs:=((sS g).aB tb);have ha_:=ha;have hb_:=hb;obtain ⟨ha1,ha2⟩:=ha_;obtain ⟨hb1,hb2⟩:=hb_;exact go Tryz.func101 [(0,qv a),(1,qv b)] rfl (aA (lA 2 43 (qc a) hs (fun b1 w2 h3 hs=>lA 3 43 (qc b) hs (fun b4 w5 h6 hs=>lA 4 43 ([qF,uV 0,eS,uV 0,eS]) hs (fun b7 w8 h9 hs=>ae (ab hs [.o 7 (qv a) 2 0 5] (ah 8 hs (cY a aM aM _ _ hs.g) (fun _ _ hs=>lL hs [.m 9 8,.o 10 (qv b) 1 0 5] (ah 11 hs (cY b aM aM _ _ hs.g) (fun _ _ hs=>lL hs [.v 12 qT] (am (ab hs [.v 13 (pB b1),.o 14 (iv a.num) 2 0 3,.v 15 (pB b4),.o 16 (iv b.num) 1 0 3] (ah 17 hs (vI a.num b.num bX _ _ hs.g) (fun _ _ hs=>lL hs [.v 18 (.agg #[.bool (ai (a.num*b.num)),uV (lo (aa (a.num*b.num))),.string (hi (aa (a.num*b.num))),uV 0,eS])] (lP 0 0 ([.bool (ai (a.num*b.num)),uV (lo (aa (a.num*b.num))),.string (hi (aa (a.num*b.num))),uV 0,eS]) hs (fun _ hs=>ac hs [(0,0,5)] (.agg #[.bool (ai (a.num*b.num)),uV (lo (aa (a.num*b.num))),.string (hi (aa (a.num*b.num))),uV 0,eS]) (fT (d:=0) (gt hwa hwb).1 (jr (gt hwa hwb).2))))))))))))))))))
theorem AB (a b:Rat)(ha:LQ 100000000 a)(hb:LQ 100000000 b)(hwa:a.den≠1)(w:World)(h:Hp)(g:G w h)(tb:Tab h):CV 101 #[qv a,qv b] w h (qv (a*b)):=by
 have hs:=((sS g).aB tb);have ha_:=ha;have hb_:=hb;obtain ⟨ha1,ha2⟩:=ha;obtain ⟨hb1,hb2⟩:=hb;obtain ⟨q,hq⟩:∃ q,q=Nat.gcd (aa a.num) b.den:=⟨_,rfl⟩;obtain ⟨r,hr⟩:∃ r,r=Nat.gcd (aa b.num) a.den:=⟨_,rfl⟩;obtain ⟨hm1,hm2,hd1,hd2,hq0,hr0⟩:=jn a b q r hq hr;have hql:(wds q).length≤100000000:=au (by rw[hq];exact Nat.gcd_le_right _ b.den_pos) hb2;have hrl:(wds r).length≤100000000:=au (by rw[hr];exact Nat.gcd_le_right _ a.den_pos) ha2;have haq:(wds (aa (a.num/(q:Int)))).length≤100000000:=au (bQ _ _ hd1) ha1;have hbr:(wds (aa (b.num/(r:Int)))).length≤100000000:=au (bQ _ _ hd2) hb1;have har:(wds (a.den/r)).length≤100000000:=au (Nat.div_le_self _ _) ha2;have hbq:(wds (b.den/q)).length≤100000000:=au (Nat.div_le_self _ _) hb2;have hdl:=@cv (a.den/r) (b.den/q);have hnl:=gi (a.num/(q:Int)) (b.num/(r:Int));have hLQ:LQ 1000000000 (a*b):=⟨by rw[hm1];omega,by rw[hm2];omega⟩;have ha:=ha_;have hb:=hb_;refine go Tryz.func101 [(0,qv a),(1,qv b)] rfl (aA (lA 2 43 (qc a) hs (fun b1 w2 h3 hs=>lA 3 43 (qc b) hs (fun b4 w5 h6 hs=>lA 4 43 ([qF,uV 0,eS,uV 0,eS]) hs (fun b7 w8 h9 hs=>ae (ab hs [.o 7 (qv a) 2 0 5] (ah 8 hs (ew a aM aM _ _ hs.g) (fun _ _ hs=>lL hs [.m 9 8] (lG 10 ?_)))))))));refine lG 11 (lL hs [.v 12 qF] (af (cK (cQ ?_))));have hsr:=hs;refine cR 7 [⟨6,5,.cells (List.toArray [uV 0,eS]) 39 (0,0)⟩] mixed hs (bF (eP kR (fun _ _=>by kernel_rfl)) ar) (eV 0 19 (pB b1) (eO 1 20 [(2,0,3)] (iv a.num) hs (eO 2 21 [(1,0,5)] (qv b) hs (aq 3 22 hs (fun _ _ hs=>en b aM _ _ hs.g) (fun _ _ hs=>aq 4 23 hs (fun _ _ hs=>dr b.den _ _ hs.g) (fun _ _ hs=>aq 5 24 hs (fun _ _ hs=>g7 a.num (b.den:Int) q (by first|assumption|exact hq) bX (show (wds b.den).length≤1000000000 by first|assumption|omega) _ _ hs.g hs.f.1) (fun _ _ hs=>gL [] hsr hs 39 [uV 0,eS] (fun _ _ b20 hs=>tP 7 0 0 (nc q) hs (fun _ hs=>tN (cQ ?_))))))))));have hsr:=hs;refine cR 7 [⟨6,6,.cells (List.toArray [uV 0,eS]) 39 (0,0)⟩] mixed hs (bF (eP kR (fun _ _=>by kernel_rfl)) ar) (eV 0 25 (pB b4) (eO 1 26 [(2,0,3)] (iv b.num) hs (eO 2 27 [(3,0,5)] (qv a) hs (aq 3 28 hs (fun _ _ hs=>en a aM _ _ hs.g) (fun _ _ hs=>aq 4 29 hs (fun _ _ hs=>dr a.den _ _ hs.g) (fun _ _ hs=>aq 5 30 hs (fun _ _ hs=>g7 b.num (a.den:Int) r (by first|assumption|exact hr) bX (show (wds a.den).length≤1000000000 by first|assumption|omega) _ _ hs.g hs.f.1) (fun _ _ hs=>gL [] hsr hs 39 [uV 0,eS] (fun _ _ b30 hs=>tP 7 0 0 (nc r) hs (fun _ hs=>tN (cQ (cR 19 [] mixed hs ar ?_)))))))))));refine eV 0 31 (pB b1) (eO 1 32 [(4,0,3)] (iv a.num) hs (eO 2 33 [(1,0,2)] (nv q) hs (eV 4 35 (pB b4) (eO 5 36 [(3,0,3)] (iv b.num) hs (eO 6 37 [(0,0,2)] (nv r) hs (eO 9 40 [(4,0,5)] (qv a) hs (eO 11 42 [(0,0,2)] (nv r) hs (eO 13 44 [(3,0,5)] (qv b) hs (eO 15 46 [(1,0,2)] (nv q) hs (aq 3 34 hs (fun _ _ hs=>jv a.num q aM aM bX bX _ _ hs.g) (fun _ _ hs=>aq 7 38 hs (fun _ _ hs=>jv b.num r aM aM bX bX _ _ hs.g) (fun _ _ hs=>aq 8 39 hs (fun _ _ hs=>vI (a.num/(q:Int)) (b.num/(r:Int)) bX _ _ hs.g) (fun _ _ hs=>aq 10 41 hs (fun _ _ hs=>en a aM _ _ hs.g) (fun _ _ hs=>aq 12 43 hs (fun _ _ hs=>fI a.den r aM bX bX _ _ hs.g) (fun _ _ hs=>aq 14 45 hs (fun _ _ hs=>en b aM _ _ hs.g) (fun _ _ hs=>aq 16 47 hs (fun _ _ hs=>fI b.den q aM bX bX _ _ hs.g) (fun _ _ hs=>aq 17 48 hs (fun _ _ hs=>mR (a.den/r) (b.den/q) bX bX _ _ hs.g) (fun _ _ hs=>aq 18 49 hs (fun _ _ hs=>iO (a*b) ((a.num/(q:Int))*(b.num/(r:Int))) ((a.den/r)*(b.den/q)) (by first|assumption|exact hm1|exact (hm1).symm) (by first|assumption|exact hm2.symm) aM _ _ hs.g) (fun _ _ hs=>cg hs (fun _ _ hs=>tP 19 2 0 (qc (a*b)) hs (fun _ hs=>tN (bJ [(4,pB b7)] ?_))))))))))))))))))))));exact kX (hs.ret [(2,0,5)] (qv (a*b)) rfl)
theorem Cu (a b:Rat)(ha:LQ 100000000 a)(hb:LQ 100000000 b)(hwa:a.den=1)(hwb:b.den≠1)(w:World)(h:Hp)(g:G w h)(tb:Tab h):CV 101 #[qv a,qv b] w h (qv (a*b)):=by
 have hs:=((sS g).aB tb);have ha_:=ha;have hb_:=hb;obtain ⟨ha1,ha2⟩:=ha;obtain ⟨hb1,hb2⟩:=hb;obtain ⟨q,hq⟩:∃ q,q=Nat.gcd (aa a.num) b.den:=⟨_,rfl⟩;obtain ⟨r,hr⟩:∃ r,r=Nat.gcd (aa b.num) a.den:=⟨_,rfl⟩;obtain ⟨hm1,hm2,hd1,hd2,hq0,hr0⟩:=jn a b q r hq hr;have hql:(wds q).length≤100000000:=au (by rw[hq];exact Nat.gcd_le_right _ b.den_pos) hb2;have hrl:(wds r).length≤100000000:=au (by rw[hr];exact Nat.gcd_le_right _ a.den_pos) ha2;have haq:(wds (aa (a.num/(q:Int)))).length≤100000000:=au (bQ _ _ hd1) ha1;have hbr:(wds (aa (b.num/(r:Int)))).length≤100000000:=au (bQ _ _ hd2) hb1;have har:(wds (a.den/r)).length≤100000000:=au (Nat.div_le_self _ _) ha2;have hbq:(wds (b.den/q)).length≤100000000:=au (Nat.div_le_self _ _) hb2;have hdl:=@cv (a.den/r) (b.den/q);have hnl:=gi (a.num/(q:Int)) (b.num/(r:Int));have hLQ:LQ 1000000000 (a*b):=⟨by rw[hm1];omega,by rw[hm2];omega⟩;have ha:=ha_;have hb:=hb_;refine go Tryz.func101 [(0,qv a),(1,qv b)] rfl (aA (lA 2 43 (qc a) hs (fun b1 w2 h3 hs=>lA 3 43 (qc b) hs (fun b4 w5 h6 hs=>lA 4 43 ([qF,uV 0,eS,uV 0,eS]) hs (fun b7 w8 h9 hs=>ae (ab hs [.o 7 (qv a) 2 0 5] (ah 8 hs (cY a aM aM _ _ hs.g) (fun _ _ hs=>lL hs [.m 9 8,.o 10 (qv b) 1 0 5] (ah 11 hs (ew b aM aM _ _ hs.g) (fun _ _ hs=>lL hs [.v 12 qF] (af (cK (cQ ?_)))))))))))));have hsr:=hs;refine cR 7 [⟨6,5,.cells (List.toArray [uV 0,eS]) 39 (0,0)⟩] mixed hs (bF (eP kR (fun _ _=>by kernel_rfl)) ar) (eV 0 19 (pB b1) (eO 1 20 [(2,0,3)] (iv a.num) hs (eO 2 21 [(1,0,5)] (qv b) hs (aq 3 22 hs (fun _ _ hs=>en b aM _ _ hs.g) (fun _ _ hs=>aq 4 23 hs (fun _ _ hs=>dr b.den _ _ hs.g) (fun _ _ hs=>aq 5 24 hs (fun _ _ hs=>g7 a.num (b.den:Int) q (by first|assumption|exact hq) bX (show (wds b.den).length≤1000000000 by first|assumption|omega) _ _ hs.g hs.f.1) (fun _ _ hs=>gL [] hsr hs 39 [uV 0,eS] (fun _ _ b22 hs=>tP 7 0 0 (nc q) hs (fun _ hs=>tN (cQ ?_))))))))));have hsr:=hs;refine cR 7 [⟨6,6,.cells (List.toArray [uV 0,eS]) 39 (0,0)⟩] mixed hs (bF (eP kR (fun _ _=>by kernel_rfl)) ar) (eV 0 25 (pB b4) (eO 1 26 [(2,0,3)] (iv b.num) hs (eO 2 27 [(3,0,5)] (qv a) hs (aq 3 28 hs (fun _ _ hs=>en a aM _ _ hs.g) (fun _ _ hs=>aq 4 29 hs (fun _ _ hs=>dr a.den _ _ hs.g) (fun _ _ hs=>aq 5 30 hs (fun _ _ hs=>g7 b.num (a.den:Int) r (by first|assumption|exact hr) bX (show (wds a.den).length≤1000000000 by first|assumption|omega) _ _ hs.g hs.f.1) (fun _ _ hs=>gL [] hsr hs 39 [uV 0,eS] (fun _ _ b32 hs=>tP 7 0 0 (nc r) hs (fun _ hs=>tN (cQ (cR 19 [] mixed hs ar ?_)))))))))));refine eV 0 31 (pB b1) (eO 1 32 [(4,0,3)] (iv a.num) hs (eO 2 33 [(1,0,2)] (nv q) hs (eV 4 35 (pB b4) (eO 5 36 [(3,0,3)] (iv b.num) hs (eO 6 37 [(0,0,2)] (nv r) hs (eO 9 40 [(4,0,5)] (qv a) hs (eO 11 42 [(0,0,2)] (nv r) hs (eO 13 44 [(3,0,5)] (qv b) hs (eO 15 46 [(1,0,2)] (nv q) hs (aq 3 34 hs (fun _ _ hs=>jv a.num q aM aM bX bX _ _ hs.g) (fun _ _ hs=>aq 7 38 hs (fun _ _ hs=>jv b.num r aM aM bX bX _ _ hs.g) (fun _ _ hs=>aq 8 39 hs (fun _ _ hs=>vI (a.num/(q:Int)) (b.num/(r:Int)) bX _ _ hs.g) (fun _ _ hs=>aq 10 41 hs (fun _ _ hs=>en a aM _ _ hs.g) (fun _ _ hs=>aq 12 43 hs (fun _ _ hs=>fI a.den r aM bX bX _ _ hs.g) (fun _ _ hs=>aq 14 45 hs (fun _ _ hs=>en b aM _ _ hs.g) (fun _ _ hs=>aq 16 47 hs (fun _ _ hs=>fI b.den q aM bX bX _ _ hs.g) (fun _ _ hs=>aq 17 48 hs (fun _ _ hs=>mR (a.den/r) (b.den/q) bX bX _ _ hs.g) (fun _ _ hs=>aq 18 49 hs (fun _ _ hs=>iO (a*b) ((a.num/(q:Int))*(b.num/(r:Int))) ((a.den/r)*(b.den/q)) (by first|assumption|exact hm1|exact (hm1).symm) (by first|assumption|exact hm2.symm) aM _ _ hs.g) (fun _ _ hs=>cg hs (fun _ _ hs=>tP 19 2 0 (qc (a*b)) hs (fun _ hs=>tN (bJ [(4,pB b7)] ?_))))))))))))))))))))));exact kX (hs.ret [(2,0,5)] (qv (a*b)) rfl)
theorem rq (a b:Rat)(ha:LQ 100000000 a)(hb:LQ 100000000 b)(w:World)(h:Hp)(g:G w h)(tb:Tab h):CV 101 #[qv a,qv b] w h (qv (a*b)):=by
 by_cases h1:a.den=1
 ·by_cases h2:b.den=1
  ·exact BV a b ha hb h1 h2 w h g tb
  ·exact Cu a b ha hb h1 h2 w h g tb
 ·exact AB a b ha hb h1 w h g tb
theorem LQ.neg {k:Nat}{a:Rat}(h:LQ k a):LQ k (-a):=⟨by rw[Rat.neg_num];unfold aa;rw[Int.natAbs_neg];exact h.1,by rw[Rat.neg_den];exact h.2⟩
theorem Ey (a b:Rat)(ha:LQ 100000000 a)(hb:LQ 100000000 b)(w:World)(h:Hp)(g:G w h)(tb:Tab h):CV 100 #[qv a,qv b] w h (qv (a-b)):=by
 have hs:=((sS g).aB tb);have hnb:=hb.neg;refine go Tryz.func100 [(0,qv a),(1,qv b)] rfl (aA (lA 2 43 (qc a) hs (fun b1 w2 h3 hs=>lA 3 43 (qc b) hs (fun b4 w5 h6 hs=>lA 4 43 ([qF,uV 0,eS,uV 0,eS]) hs (fun b7 w8 h9 hs=>ae (cR 4 [] mixed hs ar ?_))))));exact eO 0 5 [(2,0,5)] (qv a) hs (eO 1 6 [(1,0,5)] (qv b) hs (aq 2 7 hs (fun _ _ hs=>Dc b aM _ _ hs.g) (fun _ _ hs=>aq 3 8 hs (fun _ _ hs=>Cp a (-b) aM aM _ _ hs.g hs.f.1) (fun _ _ hs=>cg hs (fun _ _ hs=>tP 4 0 0 (qc (a+(-b))) hs (fun _ hs=>tN (kX (hs.ret [(0,0,5)] (qv (a+(-b))) (by rw[Rat.sub_eq_add_neg])))))))))
theorem LQ.add {k l:Nat}{a b:Rat}(ha:LQ k a)(hb:LQ l b):LQ (k+l+1) (a+b):=by
 obtain ⟨ha1,ha2⟩:=ha;obtain ⟨hb1,hb2⟩:=hb;obtain ⟨q,hq⟩:∃ q,q=Nat.gcd a.den b.den:=⟨_,rfl⟩;obtain ⟨up,hup⟩:∃ up,up=a.num*((b.den/q:Nat):Int)+b.num*((a.den/q:Nat):Int):=⟨_,rfl⟩;obtain ⟨r,hr⟩:∃ r,r=Nat.gcd (aa up) q:=⟨_,rfl⟩;obtain ⟨hm1,hm2,hd1,hd2,hr0,hq0⟩:=jj a b q r up hq hup hr;have haq:=au (Nat.div_le_self a.den q) ha2;have hbq:=au (Nat.div_le_self b.den q) hb2;have hbr:=au (Nat.div_le_self b.den r) hb2;have hx1:=cG a.num (b.den/q);have hx2:=cG b.num (a.den/q);have hdl:=@cv (a.den/q) (b.den/r);refine ⟨?_,by rw[hm2];omega⟩;rw[hm1];refine au (bQ up r hd1) ?_;rw[hup];exact Nat.le_trans (ci (show aa _≤aa _+aa _ from Int.natAbs_add_le _ _)) (nk oM oM)
theorem LQ.mul {k l:Nat}{a b:Rat}(ha:LQ k a)(hb:LQ l b):LQ (k+l) (a*b):=by
 obtain ⟨ha1,ha2⟩:=ha;obtain ⟨hb1,hb2⟩:=hb;obtain ⟨hm1,hm2,hd1,hd2,hq0,hr0⟩:=jn a b _ _ rfl rfl;refine ⟨?_,?_⟩
 ·rw[hm1]
  have h1:=au (bQ _ _ hd1) ha1;have h2:=au (bQ _ _ hd2) hb1;exact Nat.le_trans (gi _ _) oM
 ·rw[hm2]
  have h1:=au (Nat.div_le_self a.den (Nat.gcd (aa b.num) a.den)) ha2;have h2:=au (Nat.div_le_self b.den (Nat.gcd (aa a.num) b.den)) hb2;exact Nat.le_trans cv oM
theorem LQ.mono {k l:Nat}{a:Rat}(h:LQ k a)(hkl:k≤l):LQ l a:=⟨Nat.le_trans h.1 hkl,Nat.le_trans h.2 hkl⟩
def di (a b:Rat):Int:=dh (a.num*b.den) (b.num*a.den)
theorem eK {a b:Rat}(h1:a.den=1)(h2:b.den=1):dh a.num b.num=di a b:=by unfold di;rw[h1,h2];simp
theorem fk {a b:Rat}(h:(a.num.sign != b.num.sign)=true):dh a.num b.num=di a b:=by
 have h:a.num.sign≠b.num.sign:=by simpa using h
 have ha:=a.den_pos;have hb:=b.den_pos
 unfold di dh
 rcases Int.lt_trichotomy a.num 0 with p|p|p<;>rcases Int.lt_trichotomy b.num 0 with q|q|q
 ·exact absurd (by rw[Int.sign_eq_neg_one_of_neg p,Int.sign_eq_neg_one_of_neg q]) h
 ·have:a.num*(b.den:Int)<0:=Int.mul_neg_of_neg_of_pos p oM
  rw[q];simp;rw[if_pos p,if_pos this]
 ·have t1:a.num*(b.den:Int)<0:=Int.mul_neg_of_neg_of_pos p oM
  have t2:0<b.num*(a.den:Int):=Int.mul_pos q oM;rw[if_pos oM,if_pos oM]
 ·have:b.num*(a.den:Int)<0:=Int.mul_neg_of_neg_of_pos q oM
  rw[p];simp;rw[if_neg oM,if_pos q,if_neg oM,if_pos this]
 ·exact absurd (by rw[p,q]) h
 ·have:0<b.num*(a.den:Int):=Int.mul_pos q oM
  rw[p];simp;rw[if_pos q,if_pos this]
 ·have t1:0<a.num*(b.den:Int):=Int.mul_pos p oM
  have t2:b.num*(a.den:Int)<0:=Int.mul_neg_of_neg_of_pos q oM;rw[if_neg oM,if_pos oM,if_neg oM,if_pos oM]
 ·have:0<a.num*(b.den:Int):=Int.mul_pos p oM
  rw[q];simp;rw[if_neg oM,if_pos p,if_neg oM,if_pos this]
 ·exact absurd (by rw[Int.sign_eq_one_of_pos p,Int.sign_eq_one_of_pos q]) h
theorem BP (a b:Rat)(ha:LQ 100000000 a)(hb:LQ 100000000 b)(hwa:a.den=1)(hwb:b.den=1)(w:World)(h:Hp)(g:G w h):CV 15 #[qv a,qv b] w h (iV (di a b)):=by
 have hs:=sS g;have ha_:=ha;have hb_:=hb;obtain ⟨ha1,ha2⟩:=ha_;obtain ⟨hb1,hb2⟩:=hb_;have hx1:=cG a.num b.den;have hx2:=cG b.num a.den;refine go Tryz.func15 [(0,qv a),(1,qv b)] rfl (aA (lA 2 43 (qc a) hs (fun b1 w2 h3 hs=>lA 3 43 (qc b) hs (fun b4 w5 h6 hs=>lL hs [.v 4 (iV 0)] (ae (cQ (cR 13 [] mixed hs ar ?_)))))));exact eO 0 5 [(1,0,5)] (qv a) hs (aq 1 6 hs (fun _ _ hs=>cY a aM aM _ _ hs.g) (fun w7 h8 hs=>eV 2 7 qT (eO 3 8 [(0,0,5)] (qv b) hs (aq 4 9 hs (fun _ _ hs=>cY b aM aM _ _ hs.g) (fun w9 _ hs=>eV 5 10 qT (eV 6 11 qT (eG 7 12 (eG 8 13 (eG 9 14 (eG 10 15 (eG 11 16 (eV 12 17 qT (cg hs (fun _ _ hs=>tN (cf (ab hs [.v 18 (pB b1),.o 19 (iv a.num) 1 0 3,.v 20 (pB b4),.o 21 (iv b.num) 0 0 3] (ah 22 hs (ub a.num b.num bX bX _ _ hs.g) (fun _ _ hs=>lL hs [.m 4 22] (ac hs [] (iV (dh a.num b.num)) (congrArg (Value.int .i64) (by first|rfl|exact eK hwa hwb|exact fk ‹_›)))))))))))))))))))))
theorem CB (a b:Rat)(ha:LQ 100000000 a)(hb:LQ 100000000 b)(hwa:a.den≠1)(w:World)(h:Hp)(g:G w h):CV 15 #[qv a,qv b] w h (iV (di a b)):=by
 have hs:=sS g;have ha_:=ha;have hb_:=hb;obtain ⟨ha1,ha2⟩:=ha_;obtain ⟨hb1,hb2⟩:=hb_;have hx1:=cG a.num b.den;have hx2:=cG b.num a.den;refine go Tryz.func15 [(0,qv a),(1,qv b)] rfl (aA (lA 2 43 (qc a) hs (fun b1 w2 h3 hs=>lA 3 43 (qc b) hs (fun b4 w5 h6 hs=>lL hs [.v 4 (iV 0)] (ae (cQ (cR 13 [] mixed hs ar ?_)))))));refine eO 0 5 [(1,0,5)] (qv a) hs (aq 1 6 hs (fun _ _ hs=>ew a aM aM _ _ hs.g) (fun w7 h8 hs=>eV 2 7 qF (eG 3 8 (eG 4 9 (eV 5 10 qF (eV 6 11 qF (eO 7 12 [(1,0,5)] (qv a) hs (eO 9 14 [(0,0,5)] (qv b) hs (aq 8 13 hs (fun _ _ hs=>g8 a aM _ _ hs.g) (fun w9 _ hs=>aq 10 15 hs (fun _ _ hs=>g8 b aM _ _ hs.g) (fun _ _ hs=>?_)))))))))));cases za:(((a.num).sign:Int) != ((b.num).sign:Int))
 ·
  have zb:=aI za;refine eB 11 16 za (eV 12 17 qF (cg hs (fun _ _ hs=>tN (cF (cK (cQ (cR 11 [] mixed hs ar ?_)))))));exact eV 0 23 (pB b1) (eO 1 24 [(1,0,3)] (iv a.num) hs (eO 2 25 [(0,0,5)] (qv b) hs (eV 5 28 (pB b4) (eO 6 29 [(0,0,3)] (iv b.num) hs (eO 7 30 [(1,0,5)] (qv a) hs (aq 3 26 hs (fun _ _ hs=>en b aM _ _ hs.g) (fun _ _ hs=>aq 4 27 hs (fun _ _ hs=>fy a.num b.den bX _ _ hs.g) (fun _ _ hs=>aq 8 31 hs (fun _ _ hs=>en a aM _ _ hs.g) (fun _ _ hs=>aq 9 32 hs (fun _ _ hs=>fy b.num a.den bX _ _ hs.g) (fun _ _ hs=>aq 10 33 hs (fun _ _ hs=>ub (a.num*(b.den:Int)) (b.num*(a.den:Int)) bX bX _ _ hs.g) (fun _ _ hs=>cg hs (fun _ _ hs=>tV 11 4 (iV (dh (a.num*(b.den:Int)) (b.num*(a.den:Int)))) (tN (kX (hs.ret [] (iV (dh (a.num*(b.den:Int)) (b.num*(a.den:Int)))) (congrArg (Value.int .i64) (by first|rfl|exact eK hwa hwb|exact fk ‹_›)))))))))))))))))
 have zb:=aR za;exact eB 11 16 za (eV 12 17 qT (cg hs (fun _ _ hs=>tN (cf (ab hs [.v 18 (pB b1),.o 19 (iv a.num) 1 0 3,.v 20 (pB b4),.o 21 (iv b.num) 0 0 3] (ah 22 hs (ub a.num b.num bX bX _ _ hs.g) (fun _ _ hs=>lL hs [.m 4 22] (ac hs [] (iV (dh a.num b.num)) (congrArg (Value.int .i64) (by first|rfl|exact eK hwa hwb|exact fk ‹_›))))))))))
theorem B3 (a b:Rat)(ha:LQ 100000000 a)(hb:LQ 100000000 b)(hwa:a.den=1)(hwb:b.den≠1)(w:World)(h:Hp)(g:G w h):CV 15 #[qv a,qv b] w h (iV (di a b)):=by
 have hs:=sS g;have ha_:=ha;have hb_:=hb;obtain ⟨ha1,ha2⟩:=ha_;obtain ⟨hb1,hb2⟩:=hb_;have hx1:=cG a.num b.den;have hx2:=cG b.num a.den;refine go Tryz.func15 [(0,qv a),(1,qv b)] rfl (aA (lA 2 43 (qc a) hs (fun b1 w2 h3 hs=>lA 3 43 (qc b) hs (fun b4 w5 h6 hs=>lL hs [.v 4 (iV 0)] (ae (cQ (cR 13 [] mixed hs ar ?_)))))));refine eO 0 5 [(1,0,5)] (qv a) hs (aq 1 6 hs (fun _ _ hs=>cY a aM aM _ _ hs.g) (fun w7 h8 hs=>eV 2 7 qT (eO 3 8 [(0,0,5)] (qv b) hs (aq 4 9 hs (fun _ _ hs=>ew b aM aM _ _ hs.g) (fun w9 _ hs=>eV 5 10 qF (eV 6 11 qF (eO 7 12 [(1,0,5)] (qv a) hs (eO 9 14 [(0,0,5)] (qv b) hs (aq 8 13 hs (fun _ _ hs=>g8 a aM _ _ hs.g) (fun _ _ hs=>aq 10 15 hs (fun _ _ hs=>g8 b aM _ _ hs.g) (fun _ _ hs=>?_)))))))))));cases za:(((a.num).sign:Int) != ((b.num).sign:Int))
 ·
  have zb:=aI za;refine eB 11 16 za (eV 12 17 qF (cg hs (fun _ _ hs=>tN (cF (cK (cQ (cR 11 [] mixed hs ar ?_)))))));exact eV 0 23 (pB b1) (eO 1 24 [(1,0,3)] (iv a.num) hs (eO 2 25 [(0,0,5)] (qv b) hs (eV 5 28 (pB b4) (eO 6 29 [(0,0,3)] (iv b.num) hs (eO 7 30 [(1,0,5)] (qv a) hs (aq 3 26 hs (fun _ _ hs=>en b aM _ _ hs.g) (fun _ _ hs=>aq 4 27 hs (fun _ _ hs=>fy a.num b.den bX _ _ hs.g) (fun _ _ hs=>aq 8 31 hs (fun _ _ hs=>en a aM _ _ hs.g) (fun _ _ hs=>aq 9 32 hs (fun _ _ hs=>fy b.num a.den bX _ _ hs.g) (fun _ _ hs=>aq 10 33 hs (fun _ _ hs=>ub (a.num*(b.den:Int)) (b.num*(a.den:Int)) bX bX _ _ hs.g) (fun _ _ hs=>cg hs (fun _ _ hs=>tV 11 4 (iV (dh (a.num*(b.den:Int)) (b.num*(a.den:Int)))) (tN (kX (hs.ret [] (iV (dh (a.num*(b.den:Int)) (b.num*(a.den:Int)))) (congrArg (Value.int .i64) (by first|rfl|exact eK hwa hwb|exact fk ‹_›)))))))))))))))))
 have zb:=aR za;exact eB 11 16 za (eV 12 17 qT (cg hs (fun _ _ hs=>tN (cf (ab hs [.v 18 (pB b1),.o 19 (iv a.num) 1 0 3,.v 20 (pB b4),.o 21 (iv b.num) 0 0 3] (ah 22 hs (ub a.num b.num bX bX _ _ hs.g) (fun _ _ hs=>lL hs [.m 4 22] (ac hs [] (iV (dh a.num b.num)) (congrArg (Value.int .i64) (by first|rfl|exact eK hwa hwb|exact fk ‹_›))))))))))
theorem wu (a b:Rat)(ha:LQ 100000000 a)(hb:LQ 100000000 b)(w:World)(h:Hp)(g:G w h):CV 15 #[qv a,qv b] w h (iV (di a b)):=by
 by_cases h1:a.den=1
 ·by_cases h2:b.den=1
  ·exact BP a b ha hb h1 h2 w h g
  ·exact B3 a b ha hb h1 h2 w h g
 ·exact CB a b ha hb h1 w h g
theorem jq {a b:Rat}:di a b<0↔a<b:=by
 unfold di dh
 rw[Rat.lt_iff]
 split
 ·simp;assumption
 ·split<;>simp<;>omega
theorem jh {a b:Rat}:di a b>0↔b<a:=by
 unfold di dh
 rw[Rat.lt_iff]
 split
 ·simp;omega
 ·split<;>simp<;>omega
def mkR (n d:Int):Rat:=mkRat (if d<0 then -n else n) (aa d)
theorem DC (a b:Rat)(ha:LQ 100000000 a)(hb:LQ 100000000 b)(w:World)(h:Hp)(g:G w h):CV 106 #[qv a,qv b] w h (qv (if a<b then b else a)):=by
 have hs:=sS g;refine go Tryz.func106 [(0,qv a),(1,qv b)] rfl (aA (lA 2 43 (qc a) hs (fun b1 w2 h3 hs=>lA 3 43 (qc b) hs (fun b4 w5 h6 hs=>lA 4 43 ([qF,uV 0,eS,uV 0,eS]) hs (fun b7 w8 h9 hs=>ae (ab hs [.o 5 (qv b) 1 0 5,.o 6 (qv a) 2 0 5] (ah 7 hs (wu b a aM aM _ _ hs.g) (fun _ _ hs=>?_))))))));cases za:(decide ((0:Int)<(di b a:Int)))
 ·
  have zb:=oF za;exact lB 8 za (af (cK (ab hs [.o 10 (qv a) 2 0 5] (lP 0 0 (qc a) hs (fun _ hs=>ac hs [(0,0,5)] (qv a) (by rw[if_neg (fun h_=>by have:=jh.2 h_;omega)]))))))
 have zb:=oT za;exact lB 8 za (am (ab hs [.o 9 (qv b) 1 0 5] (lP 0 0 (qc b) hs (fun _ hs=>ac hs [(0,0,5)] (qv b) (by rw[if_pos (jh.1 oM)])))))
theorem Ay (n d:Int)(hd:d<0)(hla:(wds (aa n)).length≤1000000000)(hlb:(wds (aa d)).length≤1000000000)(w:World)(h:Hp)(g:G w h)(tb:Tab h):CV 48 #[iv n,iv d] w h (.tuple #[qv (mkR n d),.bool true]):=by
 have hs:=((sS g).aB tb);have hds:=Int.sign_eq_neg_one_of_neg hd;have hd0:0<aa d:=by unfold aa;omega
 have hln:(wds (aa (-n))).length≤1000000000:=by unfold aa;rw[Int.natAbs_neg];exact hla
 refine go Tryz.func48 [(0,iv n),(1,iv d)] rfl (aA (lA 2 41 (ic n) hs (fun b1 w2 h3 hs=>lA 3 41 (ic d) hs (fun b4 w5 h6 hs=>lA 4 43 ([qF,uV 0,eS,uV 0,eS]) hs (fun b7 w8 h9 hs=>lL hs [.v 5 qF] (ae (ab hs [.o 6 (iv d) 1 0 3] (ah 7 hs (jt d bX _ _ hs.g) (fun _ _ hs=>?_)))))))));have za:(((d).sign:Int) == (0:Int))=false:=dM oM;have phb12:=ag za;refine lB 8 za (af (cK (cQ (ab hs [.o 10 (iv d) 1 0 3] (ah 11 hs (jt d bX _ _ hs.g) (fun _ _ hs=>?_))))));have ⟨zb,phb15⟩:=dT (p:=((d).sign:Int)<(0:Int)) oM;refine lB 12 zb (am (kQ (lL hs [.o 13 (iv n) 2 0 3] (ah 14 hs (DQ n bX _ _ hs.g) (fun _ _ hs=>lP 2 0 (ic (-n)) hs (fun _ hs=>ae (cR 4 [] mixed hs ar ?_)))))));exact eO 0 15 [(2,0,3)] (iv (-n)) hs (eO 1 16 [(1,0,3)] (iv d) hs (aq 2 17 hs (fun _ _ hs=>qi d _ _ hs.g) (fun _ _ hs=>aq 3 18 hs (fun _ _ hs=>o5 (-n) (aa d) bX bX bX _ _ hs.g hs.f.1) (fun _ _ hs=>cg hs (fun _ _ hs=>tP 4 0 0 (qc (mkRat (-n) (aa d))) hs (fun _ hs=>tV 5 5 qT (tN (kX (hs.ret [(0,0,5)] (.tuple #[qv (mkRat (-n) (aa d)),qT]) (by unfold mkR;rw[if_pos hd]))))))))))
theorem B0 (n d:Int)(hd:0<d)(hla:(wds (aa n)).length≤1000000000)(hlb:(wds (aa d)).length≤1000000000)(w:World)(h:Hp)(g:G w h)(tb:Tab h):CV 48 #[iv n,iv d] w h (.tuple #[qv (mkR n d),.bool true]):=by
 have hs:=((sS g).aB tb);have hds:=Int.sign_eq_one_of_pos hd;have hd0:0<aa d:=by unfold aa;omega
 refine go Tryz.func48 [(0,iv n),(1,iv d)] rfl (aA (lA 2 41 (ic n) hs (fun b1 w2 h3 hs=>lA 3 41 (ic d) hs (fun b4 w5 h6 hs=>lA 4 43 ([qF,uV 0,eS,uV 0,eS]) hs (fun b7 w8 h9 hs=>lL hs [.v 5 qF] (ae (ab hs [.o 6 (iv d) 1 0 3] (ah 7 hs (jt d bX _ _ hs.g) (fun _ _ hs=>?_)))))))));have za:(((d).sign:Int) == (0:Int))=false:=dM oM;have phb12:=ag za;refine lB 8 za (af (cK (cQ (ab hs [.o 10 (iv d) 1 0 3] (ah 11 hs (jt d bX _ _ hs.g) (fun _ _ hs=>?_))))));have ⟨zb,phb15⟩:=dF (p:=((d).sign:Int)<(0:Int)) oM;refine lB 12 zb (af (cK (cQ (cR 4 [] mixed hs ar ?_))));exact eO 0 15 [(2,0,3)] (iv n) hs (eO 1 16 [(1,0,3)] (iv d) hs (aq 2 17 hs (fun _ _ hs=>qi d _ _ hs.g) (fun _ _ hs=>aq 3 18 hs (fun _ _ hs=>o5 n (aa d) bX bX bX _ _ hs.g hs.f.1) (fun _ _ hs=>cg hs (fun _ _ hs=>tP 4 0 0 (qc (mkRat n (aa d))) hs (fun _ hs=>tV 5 5 qT (tN (kX (hs.ret [(0,0,5)] (.tuple #[qv (mkRat n (aa d)),qT]) (by unfold mkR;rw[if_neg oM]))))))))))
theorem Dp (n d:Int)(hd:d≠0)(hla:(wds (aa n)).length≤1000000000)(hlb:(wds (aa d)).length≤1000000000)(w:World)(h:Hp)(g:G w h)(tb:Tab h):CV 48 #[iv n,iv d] w h (.tuple #[qv (mkR n d),.bool true]):=by
 rcases Int.lt_trichotomy d 0 with h1|h1|h1
 ·exact Ay n d h1 hla hlb w h g tb
 ·exact absurd h1 hd
 ·exact B0 n d h1 hla hlb w h g tb
theorem rQ (a b:Rat)(ha:LQ 100000000 a)(hb:LQ 100000000 b)(hz:b.num≠0)(w:World)(h:Hp)(g:G w h)(tb:Tab h):CV 102 #[qv a,qv b] w h (.tuple #[qv (a/b),.bool true]):=by
 have hs:=((sS g).aB tb);have ha_:=ha;have hb_:=hb;obtain ⟨ha1,ha2⟩:=ha_;obtain ⟨hb1,hb2⟩:=hb_;have hzs:((b.num).sign == (0:Int))=false:=by simpa using hz
 obtain ⟨hi1,hi2⟩:=pR b hz;have hsl:(wds (aa (bp (decide ((b.num).sign<(0:Int))) b.den))).length≤100000000:=by rw[dR];exact hb2
 have hli:LQ 100000000 b⁻¹:=⟨by rw[hi1];exact hsl,by rw[hi2];exact hb1⟩;have hli2:LQ 1000000000 b⁻¹:=hli.mono oM;refine go Tryz.func102 [(0,qv a),(1,qv b)] rfl (aA (lA 2 43 (qc a) hs (fun b1 w2 h3 hs=>lA 3 43 (qc b) hs (fun b4 w5 h6 hs=>lA 4 43 ([qF,uV 0,eS,uV 0,eS]) hs (fun b7 w8 h9 hs=>lL hs [.v 5 qF] (ae (ab hs [.o 6 (qv b) 1 0 5] (ah 7 hs (g8 b aM _ _ hs.g) (fun _ _ hs=>lV 8 qF ?_ (hr:=rb (e:=((b.num).sign == (0:Int))) kR hzs))))))))));refine af (cK (cQ (cR 12 [] mixed hs ar ?_)));exact eO 0 10 [(2,0,5)] (qv a) hs (eO 1 11 [(1,0,5)] (qv b) hs (eO 4 14 [(1,0,5)] (qv b) hs (eV 7 17 (pB b4) (eO 8 18 [(1,0,3)] (iv b.num) hs (aq 2 12 hs (fun _ _ hs=>g8 b aM _ _ hs.g) (fun _ _ hs=>eV 3 13 (.bool (decide (((b.num).sign:Int)<(0:Int)))) (aq 5 15 hs (fun _ _ hs=>en b aM _ _ hs.g) (fun _ _ hs=>aq 6 16 hs (fun _ _ hs=>eW (decide (((b.num).sign:Int)<(0:Int))) b.den bX _ _ hs.g) (fun _ _ hs=>aq 9 19 hs (fun _ _ hs=>qi b.num _ _ hs.g) (fun _ _ hs=>aq 10 20 hs (fun _ _ hs=>iO b⁻¹ (bp (decide (((b.num).sign:Int)<(0:Int))) b.den) (aa b.num) hi1 hi2.symm aM _ _ hs.g) (fun _ _ hs=>aq 11 21 hs (fun _ _ hs=>rq a (b⁻¹) aM aM _ _ hs.g hs.f.1) (fun _ _ hs=>cg hs (fun _ _ hs=>tP 12 0 0 (qc (a*(b⁻¹))) hs (fun _ hs=>tV 13 5 qT (tN (kX (hs.ret [(0,0,5)] (.tuple #[qv (a*(b⁻¹)),qT]) (by rw[Rat.div_def]))))))))))))))))))
theorem C3 (a:Rat)(hb:LQ 100000000 (0:Rat))(w:World)(h:Hp)(g:G w h):CV 102 #[qv a,qv (0:Rat)] w h (.tuple #[qv 0,.bool false]):=by
 have hs:=sS g;have hzs:((0:Rat).num).sign=0:=rfl;refine go Tryz.func102 [(0,qv a),(1,qv (0:Rat))] rfl (aA (lA 2 43 (qc a) hs (fun b1 w2 h3 hs=>lA 3 43 (qc (0:Rat)) hs (fun b4 w5 h6 hs=>lA 4 43 ([qF,uV 0,eS,uV 0,eS]) hs (fun b7 w8 h9 hs=>lL hs [.v 5 qF] (ae (ab hs [.o 6 (qv (0:Rat)) 1 0 5] (ah 7 hs (g8 (0:Rat) aM _ _ hs.g) (fun _ _ hs=>?_)))))))));have za:((((0:Rat).num).sign:Int) == (0:Int))=true:=jF oM;have phb12:=eq_of_beq za;exact lB 8 za (am (ab hs [.v 9 (.agg #[qF,uV 0,eS,uV 0,eS])] (lP 0 0 ([qF,uV 0,eS,uV 0,eS]) hs (fun _ hs=>lL hs [.v 5 qF] (ac hs [(0,0,5)] (.tuple #[.agg #[qF,uV 0,eS,uV 0,eS],qF]) rfl)))))
theorem oE (x:Int)(A:Option Addr)(c:Nat)(hc:(lim (aa x)).length≤c)(hLx:(lim (aa x)).length≤2000000000)(y:Int)(D:Option Addr)(d:Nat)(hd:(lim (aa y)).length≤d)(hLy:(lim (aa y)).length≤2000000000)(w:World)(h:Hp)(g:G w h)(hA:S3 A (lim (aa x)) h)(hD:S3 D (lim (aa y)) h):CR 111 #[.agg #[.bool (ai x),.slice A ((lim (aa x)).length) c],.agg #[.bool (ai y),.slice D ((lim (aa y)).length) d]] w h (fun v h1=>RI h1 v (x*y)):=by
 have hs:=(((sS g).aS hA).aS hD);refine go Tryz.func111 [(0,.agg #[.bool (ai x),qS A ((lim (aa x)).length) c]),(1,.agg #[.bool (ai y),qS D ((lim (aa y)).length) d])] rfl (aA (lA 2 26 ([.bool (ai x),qS A ((lim (aa x)).length) c]) hs (fun b1 w2 h3 hs=>lA 3 26 ([.bool (ai y),qS D ((lim (aa y)).length) d]) hs (fun b4 w5 h6 hs=>lA 4 26 ([qF,sZ]) hs (fun b7 w8 h9 hs=>ae (cR 11 [] mixed hs ar ?_))))));refine eV 0 5 (pB b1) (eO 1 6 [(2,0,1)] (.bool (ai x)) hs (eV 2 7 (pB b4) (eO 3 8 [(1,0,1)] (.bool (ai y)) hs (eV 4 9 (.bool ((ai x) != (ai y))) (eV 5 10 (qP b1 1) (eO 6 11 [(2,1,1)] (qS A ((lim (aa x)).length) c) hs (eV 7 12 (qP b4 1) (eO 8 13 [(1,1,1)] (qS D ((lim (aa y)).length) d) hs (eC 9 14 hs (fun _ _ hs=>vS (aa x) A c hc (aa y) D d hd oM oM _ _ hs.g hs.f.2.1 hs.f.1) ?_)))))))));rintro _ _ _ _ _ hs ⟨zg,zi,rfl,zc,zd⟩;replace hs:=hs.aS zd;refine eC 10 15 hs (fun _ _ hs=>rI ((ai x) != (ai y)) ((aa x)*(aa y)) zg zi zc _ _ hs.g hs.f.1) ?_;rintro _ _ _ _ _ hs ⟨za,zb,rfl,ze,zf⟩;replace hs:=hs.aS zf;exact cg hs (fun _ _ hs=>tP 11 0 0 ([.bool (ai (bp ((ai x) != (ai y)) ((aa x)*(aa y)))),qS za ((lim (aa (bp ((ai x) != (ai y)) ((aa x)*(aa y))))).length) zb]) hs (fun _ hs=>tN (kX (hs.ret [(0,0,2)] (.agg #[.bool (ai (bp ((ai x) != (ai y)) ((aa x)*(aa y)))),qS za ((lim (aa (bp ((ai x) != (ai y)) ((aa x)*(aa y))))).length) zb]) (by rw[←jC x y];exact ⟨_,_,rfl,ze,hs.f.1⟩)))))
theorem ut (x:Int)(A:Option Addr)(c:Nat)(hc:(lim (aa x)).length≤c)(hLx:(lim (aa x)).length≤2000000000)(hx:ai x=false)(w:World)(h:Hp)(g:G w h)(hA:S3 A (lim (aa x)) h):CR 174 #[.agg #[.bool false,.slice A ((lim (aa x)).length) c]] w h (fun v h1=>RI h1 v (-x)):=by
 have hs:=((sS g).aS hA);refine go Tryz.func174 [(0,.agg #[qF,qS A ((lim (aa x)).length) c])] rfl (aA (lA 1 26 ([qF,qS A ((lim (aa x)).length) c]) hs (fun b1 w2 h3 hs=>lA 2 26 ([qF,sZ]) hs (fun b4 w5 h6 hs=>aJ (lL hs [.v 3 (pB b1),.o 4 qF 1 0 1,.v 5 qT,.v 6 (qP b1 1),.o 7 (qS A ((lim (aa x)).length) c) 1 1 1] (lC 8 hs (rI true (aa x) A c hc _ _ hs.g hs.f.1) ?_))))));rintro _ _ _ hs ⟨A7,c8,rfl,hc9,za⟩;replace hs:=hs.aS za;exact lP 0 0 ([.bool (ai (bp true (aa x))),qS A7 ((lim (aa (bp true (aa x)))).length) c8]) hs (fun _ hs=>ac hs [(0,0,2)] (.agg #[.bool (ai (bp true (aa x))),qS A7 ((lim (aa (bp true (aa x)))).length) c8]) (by rw[←jb x,hx];exact ⟨_,_,rfl,hc9,hs.f.1⟩))
theorem rv (x:Int)(A:Option Addr)(c:Nat)(hc:(lim (aa x)).length≤c)(hLx:(lim (aa x)).length≤2000000000)(hx:ai x=true)(w:World)(h:Hp)(g:G w h)(hA:S3 A (lim (aa x)) h):CR 174 #[.agg #[.bool true,.slice A ((lim (aa x)).length) c]] w h (fun v h1=>RI h1 v (-x)):=by
 have hs:=((sS g).aS hA);refine go Tryz.func174 [(0,.agg #[qT,qS A ((lim (aa x)).length) c])] rfl (aA (lA 1 26 ([qT,qS A ((lim (aa x)).length) c]) hs (fun b1 w2 h3 hs=>lA 2 26 ([qF,sZ]) hs (fun b4 w5 h6 hs=>aJ (lL hs [.v 3 (pB b1),.o 4 qT 1 0 1,.v 5 qF,.v 6 (qP b1 1),.o 7 (qS A ((lim (aa x)).length) c) 1 1 1] (lC 8 hs (rI false (aa x) A c hc _ _ hs.g hs.f.1) ?_))))));rintro _ _ _ hs ⟨A7,c8,rfl,hc9,za⟩;replace hs:=hs.aS za;exact lP 0 0 ([.bool (ai (bp false (aa x))),qS A7 ((lim (aa (bp false (aa x)))).length) c8]) hs (fun _ hs=>ac hs [(0,0,2)] (.agg #[.bool (ai (bp false (aa x))),qS A7 ((lim (aa (bp false (aa x)))).length) c8]) (by rw[←jb x,hx];exact ⟨_,_,rfl,hc9,hs.f.1⟩))
theorem wK (x:Int)(A:Option Addr)(c:Nat)(hc:(lim (aa x)).length≤c)(hLx:(lim (aa x)).length≤2000000000)(w:World)(h:Hp)(g:G w h)(hA:S3 A (lim (aa x)) h):CR 174 #[.agg #[.bool (ai x),.slice A (lim (aa x)).length c]] w h (fun v h1=>RI h1 v (-x)):=by
 rcases hx:ai x with _|_
 ·exact ut x A c hc hLx hx w h g hA
 ·exact rv x A c hc hLx hx w h g hA
theorem pS (x:Int)(A:Option Addr)(c:Nat)(hc:(lim (aa x)).length≤c)(hLx:(lim (aa x)).length≤2000000000)(y:Int)(D:Option Addr)(d:Nat)(hd:(lim (aa y)).length≤d)(hLy:(lim (aa y)).length≤2000000000)(hx:ai x=false)(hy:ai y=false)(w:World)(h:Hp)(g:G w h)(hA:S3 A (lim (aa x)) h)(hD:S3 D (lim (aa y)) h):CR 173 #[.agg #[.bool false,.slice A ((lim (aa x)).length) c],.agg #[.bool false,.slice D ((lim (aa y)).length) d]] w h (fun v h1=>RI h1 v (x+y)):=by
 have hs:=(((sS g).aS hA).aS hD);have hx_:=az hx;have hy_:=az hy;refine go Tryz.func173 [(0,.agg #[qF,qS A ((lim (aa x)).length) c]),(1,.agg #[qF,qS D ((lim (aa y)).length) d])] rfl (aA (lA 2 26 ([qF,qS A ((lim (aa x)).length) c]) hs (fun b1 w2 h3 hs=>lA 3 26 ([qF,qS D ((lim (aa y)).length) d]) hs (fun b4 w5 h6 hs=>lA 4 26 ([qF,sZ]) hs (fun b7 w8 h9 hs=>ae (ab hs [.v 5 (pB b1),.o 6 qF 2 0 1,.v 7 (pB b4),.o 8 qF 1 0 1,.v 9 qT] (am (cQ (cR 8 [] mixed hs ar ?_)))))))));refine eV 0 10 (pB b1) (eO 1 11 [(2,0,1)] qF hs (eV 2 12 (qP b1 1) (eO 3 13 [(2,1,1)] (qS A ((lim (aa x)).length) c) hs (eV 4 14 (qP b4 1) (eO 5 15 [(1,1,1)] (qS D ((lim (aa y)).length) d) hs (eC 6 16 hs (fun _ _ hs=>pq (aa x) A c hc (aa y) D d hd oM oM _ _ hs.g hs.f.2.1 hs.f.1) ?_))))));rintro _ _ _ _ _ hs ⟨zg,zi,rfl,zc,zd⟩;replace hs:=hs.aS zd;refine eC 7 17 hs (fun _ _ hs=>rI false ((aa x)+(aa y)) zg zi zc _ _ hs.g hs.f.1) ?_;rintro _ _ _ _ _ hs ⟨za,zb,rfl,ze,zf⟩;replace hs:=hs.aS zf;exact cg hs (fun _ _ hs=>tP 8 0 0 ([.bool (ai (bp false ((aa x)+(aa y)))),qS za ((lim (aa (bp false ((aa x)+(aa y))))).length) zb]) hs (fun _ hs=>tN (kX (hs.ret [(0,0,2)] (.agg #[.bool (ai (bp false ((aa x)+(aa y)))),qS za ((lim (aa (bp false ((aa x)+(aa y))))).length) zb]) (by rw[show x+y=(bp false ((aa x)+(aa y))) by unfold bp aa at *;simp;omega];exact ⟨_,_,rfl,ze,hs.f.1⟩)))))
theorem pV (x:Int)(A:Option Addr)(c:Nat)(hc:(lim (aa x)).length≤c)(hLx:(lim (aa x)).length≤2000000000)(y:Int)(D:Option Addr)(d:Nat)(hd:(lim (aa y)).length≤d)(hLy:(lim (aa y)).length≤2000000000)(hx:ai x=false)(hy:ai y=true)(w:World)(h:Hp)(g:G w h)(hA:S3 A (lim (aa x)) h)(hD:S3 D (lim (aa y)) h):CR 173 #[.agg #[.bool false,.slice A ((lim (aa x)).length) c],.agg #[.bool true,.slice D ((lim (aa y)).length) d]] w h (fun v h1=>RI h1 v (x+y)):=by
 have hs:=(((sS g).aS hA).aS hD);have hx_:=az hx;have hy_:=a7 hy;refine go Tryz.func173 [(0,.agg #[qF,qS A ((lim (aa x)).length) c]),(1,.agg #[qT,qS D ((lim (aa y)).length) d])] rfl (aA (lA 2 26 ([qF,qS A ((lim (aa x)).length) c]) hs (fun b1 w2 h3 hs=>lA 3 26 ([qT,qS D ((lim (aa y)).length) d]) hs (fun b4 w5 h6 hs=>lA 4 26 ([qF,sZ]) hs (fun b7 w8 h9 hs=>ae (ab hs [.v 5 (pB b1),.o 6 qF 2 0 1,.v 7 (pB b4),.o 8 qT 1 0 1,.v 9 qF] (af (cK (cQ (ab hs [.v 18 (qP b1 1),.o 19 (qS A ((lim (aa x)).length) c) 2 1 1,.v 20 (qP b4 1),.o 21 (qS D ((lim (aa y)).length) d) 1 1 1] (ah 22 hs (jc (aa x) A c hc (aa y) D d hd oM oM _ _ hs.g hs.f.2.1 hs.f.1) (fun _ _ hs=>?_))))))))))));have hcm:=fE (aa x) (aa y);cases za:(decide ((0:Int)≤(ce (aa x) (aa y):Int)))
 ·
  have zb:=oF za;refine lB 23 za (af (cK (cQ (cR 8 [] mixed hs ar ?_))));refine eV 0 32 (pB b4) (eO 1 33 [(1,0,1)] qT hs (eV 2 34 (qP b4 1) (eO 3 35 [(1,1,1)] (qS D ((lim (aa y)).length) d) hs (eV 4 36 (qP b1 1) (eO 5 37 [(2,1,1)] (qS A ((lim (aa x)).length) c) hs (eC 6 38 hs (fun _ _ hs=>jf (aa y) D d hd (aa x) A c hc oM oM oM _ _ hs.g hs.f.1 hs.f.2.1) ?_))))));rintro _ _ _ _ _ hs ⟨zp,zq,rfl,zg,zi⟩;replace hs:=hs.aS zi;refine eC 7 39 hs (fun _ _ hs=>rI true ((aa y)-(aa x)) zp zq zg _ _ hs.g hs.f.1) ?_;rintro _ _ _ _ _ hs ⟨zc,zd,rfl,zj,zk⟩;replace hs:=hs.aS zk;exact cg hs (fun _ _ hs=>tP 8 0 0 ([.bool (ai (bp true ((aa y)-(aa x)))),qS zc ((lim (aa (bp true ((aa y)-(aa x))))).length) zd]) hs (fun _ hs=>tN (kX (hs.ret [(0,0,2)] (.agg #[.bool (ai (bp true ((aa y)-(aa x)))),qS zc ((lim (aa (bp true ((aa y)-(aa x))))).length) zd]) (by rw[show x+y=(bp true ((aa y)-(aa x))) by unfold bp aa at *;simp;omega];exact ⟨_,_,rfl,zj,hs.f.1⟩)))))
 have zb:=oT za;refine lB 23 za (am (cQ (cR 8 [] mixed hs ar ?_)));refine eV 0 24 (pB b1) (eO 1 25 [(2,0,1)] qF hs (eV 2 26 (qP b1 1) (eO 3 27 [(2,1,1)] (qS A ((lim (aa x)).length) c) hs (eV 4 28 (qP b4 1) (eO 5 29 [(1,1,1)] (qS D ((lim (aa y)).length) d) hs (eC 6 30 hs (fun _ _ hs=>jf (aa x) A c hc (aa y) D d hd oM oM oM _ _ hs.g hs.f.2.1 hs.f.1) ?_))))));rintro _ _ _ _ _ hs ⟨zr,zs,rfl,zl,zm⟩;replace hs:=hs.aS zm;refine eC 7 31 hs (fun _ _ hs=>rI false ((aa x)-(aa y)) zr zs zl _ _ hs.g hs.f.1) ?_;rintro _ _ _ _ _ hs ⟨ze,zf,rfl,zn,zo⟩;replace hs:=hs.aS zo;exact cg hs (fun _ _ hs=>tP 8 0 0 ([.bool (ai (bp false ((aa x)-(aa y)))),qS ze ((lim (aa (bp false ((aa x)-(aa y))))).length) zf]) hs (fun _ hs=>tN (kX (hs.ret [(0,0,2)] (.agg #[.bool (ai (bp false ((aa x)-(aa y)))),qS ze ((lim (aa (bp false ((aa x)-(aa y))))).length) zf]) (by rw[show x+y=(bp false ((aa x)-(aa y))) by unfold bp aa at *;simp;omega];exact ⟨_,_,rfl,zn,hs.f.1⟩)))))
theorem qe (x:Int)(A:Option Addr)(c:Nat)(hc:(lim (aa x)).length≤c)(hLx:(lim (aa x)).length≤2000000000)(y:Int)(D:Option Addr)(d:Nat)(hd:(lim (aa y)).length≤d)(hLy:(lim (aa y)).length≤2000000000)(hx:ai x=true)(hy:ai y=false)(w:World)(h:Hp)(g:G w h)(hA:S3 A (lim (aa x)) h)(hD:S3 D (lim (aa y)) h):CR 173 #[.agg #[.bool true,.slice A ((lim (aa x)).length) c],.agg #[.bool false,.slice D ((lim (aa y)).length) d]] w h (fun v h1=>RI h1 v (x+y)):=by
 have hs:=(((sS g).aS hA).aS hD);have hx_:=a7 hx;have hy_:=az hy;refine go Tryz.func173 [(0,.agg #[qT,qS A ((lim (aa x)).length) c]),(1,.agg #[qF,qS D ((lim (aa y)).length) d])] rfl (aA (lA 2 26 ([qT,qS A ((lim (aa x)).length) c]) hs (fun b1 w2 h3 hs=>lA 3 26 ([qF,qS D ((lim (aa y)).length) d]) hs (fun b4 w5 h6 hs=>lA 4 26 ([qF,sZ]) hs (fun b7 w8 h9 hs=>ae (ab hs [.v 5 (pB b1),.o 6 qT 2 0 1,.v 7 (pB b4),.o 8 qF 1 0 1,.v 9 qF] (af (cK (cQ (ab hs [.v 18 (qP b1 1),.o 19 (qS A ((lim (aa x)).length) c) 2 1 1,.v 20 (qP b4 1),.o 21 (qS D ((lim (aa y)).length) d) 1 1 1] (ah 22 hs (jc (aa x) A c hc (aa y) D d hd oM oM _ _ hs.g hs.f.2.1 hs.f.1) (fun _ _ hs=>?_))))))))))));have hcm:=fE (aa x) (aa y);cases za:(decide ((0:Int)≤(ce (aa x) (aa y):Int)))
 ·
  have zb:=oF za;refine lB 23 za (af (cK (cQ (cR 8 [] mixed hs ar ?_))));refine eV 0 32 (pB b4) (eO 1 33 [(1,0,1)] qF hs (eV 2 34 (qP b4 1) (eO 3 35 [(1,1,1)] (qS D ((lim (aa y)).length) d) hs (eV 4 36 (qP b1 1) (eO 5 37 [(2,1,1)] (qS A ((lim (aa x)).length) c) hs (eC 6 38 hs (fun _ _ hs=>jf (aa y) D d hd (aa x) A c hc oM oM oM _ _ hs.g hs.f.1 hs.f.2.1) ?_))))));rintro _ _ _ _ _ hs ⟨zp,zq,rfl,zg,zi⟩;replace hs:=hs.aS zi;refine eC 7 39 hs (fun _ _ hs=>rI false ((aa y)-(aa x)) zp zq zg _ _ hs.g hs.f.1) ?_;rintro _ _ _ _ _ hs ⟨zc,zd,rfl,zj,zk⟩;replace hs:=hs.aS zk;exact cg hs (fun _ _ hs=>tP 8 0 0 ([.bool (ai (bp false ((aa y)-(aa x)))),qS zc ((lim (aa (bp false ((aa y)-(aa x))))).length) zd]) hs (fun _ hs=>tN (kX (hs.ret [(0,0,2)] (.agg #[.bool (ai (bp false ((aa y)-(aa x)))),qS zc ((lim (aa (bp false ((aa y)-(aa x))))).length) zd]) (by rw[show x+y=(bp false ((aa y)-(aa x))) by unfold bp aa at *;simp;omega];exact ⟨_,_,rfl,zj,hs.f.1⟩)))))
 have zb:=oT za;refine lB 23 za (am (cQ (cR 8 [] mixed hs ar ?_)));refine eV 0 24 (pB b1) (eO 1 25 [(2,0,1)] qT hs (eV 2 26 (qP b1 1) (eO 3 27 [(2,1,1)] (qS A ((lim (aa x)).length) c) hs (eV 4 28 (qP b4 1) (eO 5 29 [(1,1,1)] (qS D ((lim (aa y)).length) d) hs (eC 6 30 hs (fun _ _ hs=>jf (aa x) A c hc (aa y) D d hd oM oM oM _ _ hs.g hs.f.2.1 hs.f.1) ?_))))));rintro _ _ _ _ _ hs ⟨zr,zs,rfl,zl,zm⟩;replace hs:=hs.aS zm;refine eC 7 31 hs (fun _ _ hs=>rI true ((aa x)-(aa y)) zr zs zl _ _ hs.g hs.f.1) ?_;rintro _ _ _ _ _ hs ⟨ze,zf,rfl,zn,zo⟩;replace hs:=hs.aS zo;exact cg hs (fun _ _ hs=>tP 8 0 0 ([.bool (ai (bp true ((aa x)-(aa y)))),qS ze ((lim (aa (bp true ((aa x)-(aa y))))).length) zf]) hs (fun _ hs=>tN (kX (hs.ret [(0,0,2)] (.agg #[.bool (ai (bp true ((aa x)-(aa y)))),qS ze ((lim (aa (bp true ((aa x)-(aa y))))).length) zf]) (by rw[show x+y=(bp true ((aa x)-(aa y))) by unfold bp aa at *;simp;omega];exact ⟨_,_,rfl,zn,hs.f.1⟩)))))
theorem qm (x:Int)(A:Option Addr)(c:Nat)(hc:(lim (aa x)).length≤c)(hLx:(lim (aa x)).length≤2000000000)(y:Int)(D:Option Addr)(d:Nat)(hd:(lim (aa y)).length≤d)(hLy:(lim (aa y)).length≤2000000000)(hx:ai x=true)(hy:ai y=true)(w:World)(h:Hp)(g:G w h)(hA:S3 A (lim (aa x)) h)(hD:S3 D (lim (aa y)) h):CR 173 #[.agg #[.bool true,.slice A ((lim (aa x)).length) c],.agg #[.bool true,.slice D ((lim (aa y)).length) d]] w h (fun v h1=>RI h1 v (x+y)):=by
 have hs:=(((sS g).aS hA).aS hD);have hx_:=a7 hx;have hy_:=a7 hy;refine go Tryz.func173 [(0,.agg #[qT,qS A ((lim (aa x)).length) c]),(1,.agg #[qT,qS D ((lim (aa y)).length) d])] rfl (aA (lA 2 26 ([qT,qS A ((lim (aa x)).length) c]) hs (fun b1 w2 h3 hs=>lA 3 26 ([qT,qS D ((lim (aa y)).length) d]) hs (fun b4 w5 h6 hs=>lA 4 26 ([qF,sZ]) hs (fun b7 w8 h9 hs=>ae (ab hs [.v 5 (pB b1),.o 6 qT 2 0 1,.v 7 (pB b4),.o 8 qT 1 0 1,.v 9 qT] (am (cQ (cR 8 [] mixed hs ar ?_)))))))));refine eV 0 10 (pB b1) (eO 1 11 [(2,0,1)] qT hs (eV 2 12 (qP b1 1) (eO 3 13 [(2,1,1)] (qS A ((lim (aa x)).length) c) hs (eV 4 14 (qP b4 1) (eO 5 15 [(1,1,1)] (qS D ((lim (aa y)).length) d) hs (eC 6 16 hs (fun _ _ hs=>pq (aa x) A c hc (aa y) D d hd oM oM _ _ hs.g hs.f.2.1 hs.f.1) ?_))))));rintro _ _ _ _ _ hs ⟨zg,zi,rfl,zc,zd⟩;replace hs:=hs.aS zd;refine eC 7 17 hs (fun _ _ hs=>rI true ((aa x)+(aa y)) zg zi zc _ _ hs.g hs.f.1) ?_;rintro _ _ _ _ _ hs ⟨za,zb,rfl,ze,zf⟩;replace hs:=hs.aS zf;exact cg hs (fun _ _ hs=>tP 8 0 0 ([.bool (ai (bp true ((aa x)+(aa y)))),qS za ((lim (aa (bp true ((aa x)+(aa y))))).length) zb]) hs (fun _ hs=>tN (kX (hs.ret [(0,0,2)] (.agg #[.bool (ai (bp true ((aa x)+(aa y)))),qS za ((lim (aa (bp true ((aa x)+(aa y))))).length) zb]) (by rw[show x+y=(bp true ((aa x)+(aa y))) by unfold bp aa at *;simp;omega];exact ⟨_,_,rfl,ze,hs.f.1⟩)))))
theorem wh (x:Int)(A:Option Addr)(c:Nat)(hc:(lim (aa x)).length≤c)(hLx:(lim (aa x)).length≤2000000000)(y:Int)(D:Option Addr)(d:Nat)(hd:(lim (aa y)).length≤d)(hLy:(lim (aa y)).length≤2000000000)(w:World)(h:Hp)(g:G w h)(hA:S3 A (lim (aa x)) h)(hD:S3 D (lim (aa y)) h):CR 173 #[.agg #[.bool (ai x),.slice A (lim (aa x)).length c],.agg #[.bool (ai y),.slice D (lim (aa y)).length d]] w h (fun v h1=>RI h1 v (x+y)):=by
 rcases hx:ai x with _|_<;>rcases hy:ai y with _|_
 ·exact pS x A c hc hLx y D d hd hLy hx hy w h g hA hD
 ·exact pV x A c hc hLx y D d hd hLy hx hy w h g hA hD
 ·exact qe x A c hc hLx y D d hd hLy hx hy w h g hA hD
 ·exact qm x A c hc hLx y D d hd hLy hx hy w h g hA hD
theorem qp (x:Int)(A:Option Addr)(c:Nat)(hc:(lim (aa x)).length≤c)(hLx:(lim (aa x)).length≤2000000000)(hz:x=0)(w:World)(h:Hp)(g:G w h)(hA:S3 A (lim (aa x)) h):CV 147 #[.agg #[.bool (ai x),.slice A ((lim (aa x)).length) c]] w h (iV x.sign):=by
 have hs:=((sS g).aS hA);have hlp:=@ck (aa x);have hia:aa x=x.natAbs:=rfl;refine go Tryz.func147 [(0,.agg #[.bool (ai x),qS A ((lim (aa x)).length) c])] rfl (aA (lA 1 26 ([.bool (ai x),qS A ((lim (aa x)).length) c]) hs (fun b1 w2 h3 hs=>lL hs [.v 2 (iV 0)] (ae (kZ (ab hs [.v 4 (qP b1 1),.o 5 (qS A ((lim (aa x)).length) c) 0 1 1,.v 6 (nV ((lim (aa x)).length))] ?_))))));have hb4:((((lim (aa x)).length:Nat):Int) == (0:Int))=true:=jF oM;have phb4:=eq_of_beq hb4;exact lB 7 hb4 (lL hs [.m 3 7] (am (ab hs [.v 2 (iV 0)] (ac hs [] (iV 0) (by subst hz;rfl)))))
theorem qk (x:Int)(A:Option Addr)(c:Nat)(hc:(lim (aa x)).length≤c)(hLx:(lim (aa x)).length≤2000000000)(hz:x<0)(w:World)(h:Hp)(g:G w h)(hA:S3 A (lim (aa x)) h):CV 147 #[.agg #[.bool true,.slice A ((lim (aa x)).length) c]] w h (iV x.sign):=by
 have hs:=((sS g).aS hA);have hlp:=@ck (aa x);have hia:aa x=x.natAbs:=rfl;refine go Tryz.func147 [(0,.agg #[qT,qS A ((lim (aa x)).length) c])] rfl (aA (lA 1 26 ([qT,qS A ((lim (aa x)).length) c]) hs (fun b1 w2 h3 hs=>lL hs [.v 2 (iV 0)] (ae (kZ (ab hs [.v 4 (qP b1 1),.o 5 (qS A ((lim (aa x)).length) c) 0 1 1,.v 6 (nV ((lim (aa x)).length))] ?_))))));have hb4:((((lim (aa x)).length:Nat):Int) == (0:Int))=false:=dM oM;have phb4:=ag hb4;exact lB 7 hb4 (lL hs [.m 3 7] (af (ab hs [.v 9 (pB b1),.o 10 qT 0 0 1,.m 8 10] (am (ab hs [.v 2 (iV (-1))] (ac hs [] (iV (-1)) (by rw[Int.sign_eq_neg_one_of_neg hz])))))))
theorem qR (x:Int)(A:Option Addr)(c:Nat)(hc:(lim (aa x)).length≤c)(hLx:(lim (aa x)).length≤2000000000)(hz:0<x)(w:World)(h:Hp)(g:G w h)(hA:S3 A (lim (aa x)) h):CV 147 #[.agg #[.bool false,.slice A ((lim (aa x)).length) c]] w h (iV x.sign):=by
 have hs:=((sS g).aS hA);have hlp:=@ck (aa x);have hia:aa x=x.natAbs:=rfl;refine go Tryz.func147 [(0,.agg #[qF,qS A ((lim (aa x)).length) c])] rfl (aA (lA 1 26 ([qF,qS A ((lim (aa x)).length) c]) hs (fun b1 w2 h3 hs=>lL hs [.v 2 (iV 0)] (ae (kZ (ab hs [.v 4 (qP b1 1),.o 5 (qS A ((lim (aa x)).length) c) 0 1 1,.v 6 (nV ((lim (aa x)).length))] ?_))))));have hb4:((((lim (aa x)).length:Nat):Int) == (0:Int))=false:=dM oM;have phb4:=ag hb4;exact lB 7 hb4 (lL hs [.m 3 7] (af (ab hs [.v 9 (pB b1),.o 10 qF 0 0 1,.m 8 10] (af (cK (ab hs [.v 2 (iV 1)] (ac hs [] (iV 1) (by rw[Int.sign_eq_one_of_pos hz]))))))))
theorem r8 (x:Int)(A:Option Addr)(c:Nat)(hc:(lim (aa x)).length≤c)(hLx:(lim (aa x)).length≤2000000000)(w:World)(h:Hp)(g:G w h)(hA:S3 A (lim (aa x)) h):CV 147 #[.agg #[.bool (ai x),.slice A (lim (aa x)).length c]] w h (iV x.sign):=by
 rcases Int.lt_trichotomy x 0 with hz|hz|hz
 ·have:=qk x A c hc hLx hz w h g hA
  rwa [←show ai x=true by simp[ai,hz]] at this
 ·exact qp x A c hc hLx hz w h g hA
 ·have:=qR x A c hc hLx hz w h g hA
  rwa [←show ai x=false by simp[ai];omega] at this
theorem xp (x:Int)(A:Option Addr)(c:Nat)(hc:(lim (aa x)).length≤c)(hLx:(lim (aa x)).length≤2000000000)(y:Int)(D:Option Addr)(d:Nat)(hd:(lim (aa y)).length≤d)(hLy:(lim (aa y)).length≤2000000000)(w:World)(h:Hp)(g:G w h)(hA:S3 A (lim (aa x)) h)(hD:S3 D (lim (aa y)) h):CR 148 #[.agg #[.bool (ai x),.slice A ((lim (aa x)).length) c],.agg #[.bool (ai y),.slice D ((lim (aa y)).length) d]] w h (fun v h1=>RI h1 v (x-y)):=by
 have hs:=(((sS g).aS hA).aS hD);have hny:(lim (aa (-y))).length=(lim (aa y)).length:=by unfold aa;rw[Int.natAbs_neg]
 refine go Tryz.func148 [(0,.agg #[.bool (ai x),qS A ((lim (aa x)).length) c]),(1,.agg #[.bool (ai y),qS D ((lim (aa y)).length) d])] rfl (aA (lA 2 26 ([.bool (ai x),qS A ((lim (aa x)).length) c]) hs (fun b1 w2 h3 hs=>lA 3 26 ([.bool (ai y),qS D ((lim (aa y)).length) d]) hs (fun b4 w5 h6 hs=>lA 4 26 ([qF,sZ]) hs (fun b7 w8 h9 hs=>ae (cR 4 [] mixed hs ar ?_))))));refine eO 0 5 [(2,0,2)] (.agg #[.bool (ai x),qS A ((lim (aa x)).length) c]) hs (eO 1 6 [(1,0,2)] (.agg #[.bool (ai y),qS D ((lim (aa y)).length) d]) hs (eC 2 7 hs (fun _ _ hs=>wK y D d hd oM _ _ hs.g hs.f.1) ?_));rintro _ _ _ _ _ hs ⟨zg,zi,rfl,zc,zd⟩;replace hs:=hs.aS zd;refine eC 3 8 hs (fun _ _ hs=>wh x A c hc oM (-y) zg zi zc oM _ _ hs.g hs.f.r.1 hs.f.1) ?_;rintro _ _ _ _ _ hs ⟨za,zb,rfl,ze,zf⟩;replace hs:=hs.aS zf;exact cg hs (fun _ _ hs=>tP 4 0 0 ([.bool (ai (x+(-y))),qS za ((lim (aa (x+(-y)))).length) zb]) hs (fun _ hs=>tN (kX (hs.ret [(0,0,2)] (.agg #[.bool (ai (x+(-y))),qS za ((lim (aa (x+(-y)))).length) zb]) (by rw[Int.sub_eq_add_neg];exact ⟨_,_,rfl,ze,hs.f.1⟩)))))
theorem pU (x y:Int):(x-y).sign=dh x y:=by
 unfold dh
 rcases Int.lt_trichotomy x y with h|h|h
 ·rw[if_pos h,Int.sign_eq_neg_one_of_neg oM]
 ·subst h;simp
 ·rw[if_neg oM,if_pos h,Int.sign_eq_one_of_pos oM]
theorem vq (x:Int)(A:Option Addr)(c:Nat)(hc:(lim (aa x)).length≤c)(hLx:(lim (aa x)).length≤1999999999)(y:Int)(D:Option Addr)(d:Nat)(hd:(lim (aa y)).length≤d)(hLy:(lim (aa y)).length≤1999999999)(w:World)(h:Hp)(g:G w h)(hA:S3 A (lim (aa x)) h)(hD:S3 D (lim (aa y)) h):CV 110 #[.agg #[.bool (ai x),.slice A ((lim (aa x)).length) c],.agg #[.bool (ai y),.slice D ((lim (aa y)).length) d]] w h (iV (dh x y)):=by
 have hs:=(((sS g).aS hA).aS hD);have hxy:(lim (aa (x-y))).length≤2000000000:=iy (show aa (x-y)≤aa x+aa y by unfold aa;omega) (iZ hLx hLy);refine go Tryz.func110 [(0,.agg #[.bool (ai x),qS A ((lim (aa x)).length) c]),(1,.agg #[.bool (ai y),qS D ((lim (aa y)).length) d])] rfl (aA (lA 2 26 ([.bool (ai x),qS A ((lim (aa x)).length) c]) hs (fun b1 w2 h3 hs=>lA 3 26 ([.bool (ai y),qS D ((lim (aa y)).length) d]) hs (fun b4 w5 h6 hs=>lL hs [.v 4 (iV 0)] (aJ (lL hs [.o 5 (.agg #[.bool (ai x),qS A ((lim (aa x)).length) c]) 1 0 2,.o 6 (.agg #[.bool (ai y),qS D ((lim (aa y)).length) d]) 0 0 2] (lC 7 hs (xp x A c hc oM y D d hd oM _ _ hs.g hs.f.2.1 hs.f.1) ?_)))))));rintro _ _ _ hs ⟨A7,c8,rfl,hc9,za⟩;replace hs:=hs.aS za;exact ah 8 hs (r8 (x-y) A7 c8 hc9 oM _ _ hs.g hs.f.1) (fun _ _ hs=>lL hs [.m 4 8] (ac hs [] (iV (((x-y)).sign)) (by rw[pU])))
theorem p9 (n d:Int)(hd:d≠0):(mkR n d).num=bp (ai n != ai d) (aa n/Nat.gcd (aa n) (aa d))∧(mkR n d).den=aa d/Nat.gcd (aa n) (aa d)∧0<Nat.gcd (aa n) (aa d):=by
  have hd0:0<aa d:=by unfold aa;omega
  have hz:aa (if d<0 then -n else n)=aa n:=by unfold aa;split<;>omega
  obtain ⟨h1,h2,h3,h4⟩:=fV (if d<0 then -n else n) (aa d) hd0;rw[hz] at h1 h2 h3 h4
  refine ⟨?_,h2,h4⟩;have hs:=mg _ _ h3;rw[hz] at hs
  show (mkRat _ _).num=_
  rw[h1,←hs]
  by_cases hn:n=0
  · have hk:aa n/Nat.gcd (aa n) (aa d)=0:=by rw[hn];exact Nat.zero_div _
    rw[hk]
    unfold bp
    simp
  · have e:decide ((if d<0 then -n else n).sign<0)=(ai n != ai d):=by
      unfold ai
      rcases Int.lt_trichotomy n 0 with a|a|a
      · rcases Int.lt_trichotomy d 0 with b|b|b
        · rw[if_pos b,Int.sign_eq_one_of_pos oM];simp[a,b]
        · exact absurd b hd
        · rw[if_neg oM,Int.sign_eq_neg_one_of_neg a];simp[a,show ¬d<0 by omega]
      · exact absurd a hn
      · rcases Int.lt_trichotomy d 0 with b|b|b
        · rw[if_pos b,Int.sign_eq_neg_one_of_neg oM];simp[show ¬n<0 by omega,b]
        · exact absurd b hd
        · rw[if_neg oM,Int.sign_eq_one_of_pos a];simp[show ¬n<0 by omega,show ¬d<0 by omega]
    rw[e]
theorem m7 (x:Int)(d:Nat):(lim (aa (x*((d:Nat):Int)))).length≤(lim (aa x)).length+(lim d).length:=by
 have:aa (x*((d:Nat):Int))=aa x*d:=Int.natAbs_mul x (d:Int);rw[this];exact mD
theorem DW (a:Rat)(A1:Option Addr)(c1:Nat)(D1:Option Addr)(d1:Nat)(hc1:(lim (aa a.num)).length≤c1)(hd1:(lim a.den).length≤d1)(hn1:(lim (aa a.num)).length≤300000000)(hm1:(lim a.den).length≤300000000)(w:World)(h:Hp)(g:G w h)(hA1:S3 A1 (lim (aa a.num)) h)(hD1:S3 D1 (lim a.den) h):CR 112 #[.agg #[.bool (ai a.num),.slice A1 ((lim (aa a.num)).length) c1,.slice D1 ((lim (a.den)).length) d1]] w h (fun v h1=>RI h1 v (a.den:Int)):=by
 have hs:=(((sS g).aS hA1).aS hD1);refine go Tryz.func112 [(0,.agg #[.bool (ai a.num),qS A1 ((lim (aa a.num)).length) c1,qS D1 ((lim (a.den)).length) d1])] rfl (aA (lA 1 28 ([.bool (ai a.num),qS A1 ((lim (aa a.num)).length) c1,qS D1 ((lim (a.den)).length) d1]) hs (fun b1 w2 h3 hs=>lA 2 26 ([qF,sZ]) hs (fun b4 w5 h6 hs=>aJ (lL hs [.v 3 (qP b1 2),.o 4 (qS D1 ((lim (a.den)).length) d1) 1 2 1] (lC 5 hs (rI false a.den D1 d1 hd1 _ _ hs.g hs.f.1) ?_))))));rintro _ _ _ hs ⟨A7,c8,rfl,hc9,za⟩;replace hs:=hs.aS za;exact lP 0 0 ([.bool (ai (bp false a.den)),qS A7 ((lim (aa (bp false a.den))).length) c8]) hs (fun _ hs=>ac hs [(0,0,2)] (.agg #[.bool (ai (bp false a.den)),qS A7 ((lim (aa (bp false a.den))).length) c8]) (⟨_,_,rfl,hc9,hs.f.1⟩))
theorem EL (a:Rat)(A1:Option Addr)(c1:Nat)(D1:Option Addr)(d1:Nat)(hc1:(lim (aa a.num)).length≤c1)(hd1:(lim a.den).length≤d1)(hn1:(lim (aa a.num)).length≤300000000)(hm1:(lim a.den).length≤300000000)(b:Rat)(A2:Option Addr)(c2:Nat)(D2:Option Addr)(d2:Nat)(hc2:(lim (aa b.num)).length≤c2)(hd2:(lim b.den).length≤d2)(hn2:(lim (aa b.num)).length≤300000000)(hm2:(lim b.den).length≤300000000)(w:World)(h:Hp)(g:G w h)(hA1:S3 A1 (lim (aa a.num)) h)(hD1:S3 D1 (lim a.den) h)(hA2:S3 A2 (lim (aa b.num)) h)(hD2:S3 D2 (lim b.den) h):CV 63 #[.agg #[.bool (ai a.num),.slice A1 ((lim (aa a.num)).length) c1,.slice D1 ((lim (a.den)).length) d1],.agg #[.bool (ai b.num),.slice A2 ((lim (aa b.num)).length) c2,.slice D2 ((lim (b.den)).length) d2]] w h (iV (di a b)):=by
 have hs:=(((((sS g).aS hA1).aS hD1).aS hA2).aS hD2);have hx1:=m7 a.num b.den;have hx2:=m7 b.num a.den;refine go Tryz.func63 [(0,.agg #[.bool (ai a.num),qS A1 ((lim (aa a.num)).length) c1,qS D1 ((lim (a.den)).length) d1]),(1,.agg #[.bool (ai b.num),qS A2 ((lim (aa b.num)).length) c2,qS D2 ((lim (b.den)).length) d2])] rfl (aA (lA 2 28 ([.bool (ai a.num),qS A1 ((lim (aa a.num)).length) c1,qS D1 ((lim (a.den)).length) d1]) hs (fun b1 w2 h3 hs=>lA 3 28 ([.bool (ai b.num),qS A2 ((lim (aa b.num)).length) c2,qS D2 ((lim (b.den)).length) d2]) hs (fun b4 w5 h6 hs=>lL hs [.v 4 (iV 0)] (ae (cR 11 [] mixed hs ar ?_))))));refine eV 0 5 (pB b1) (eO 1 6 [(1,0,2)] (.agg #[.bool (ai a.num),qS A1 ((lim (aa a.num)).length) c1]) hs (eO 2 7 [(0,0,3)] (.agg #[.bool (ai b.num),qS A2 ((lim (aa b.num)).length) c2,qS D2 ((lim (b.den)).length) d2]) hs (eV 5 10 (pB b4) (eO 6 11 [(0,0,2)] (.agg #[.bool (ai b.num),qS A2 ((lim (aa b.num)).length) c2]) hs (eO 7 12 [(1,0,3)] (.agg #[.bool (ai a.num),qS A1 ((lim (aa a.num)).length) c1,qS D1 ((lim (a.den)).length) d1]) hs (eC 3 8 hs (fun _ _ hs=>DW b A2 c2 D2 d2 hc2 hd2 oM oM _ _ hs.g hs.f.2.1 hs.f.1) ?_))))));rintro _ _ _ _ _ hs ⟨A7,c8,rfl,hc9,za⟩;replace hs:=hs.aS za;refine eC 4 9 hs (fun _ _ hs=>oE a.num A1 c1 hc1 oM (b.den:Int) A7 c8 hc9 (show (lim (b.den)).length≤2000000000 by omega) _ _ hs.g hs.f.q.1 hs.f.1) ?_;rintro _ _ _ _ _ hs ⟨zi,zj,rfl,zb,zc⟩;replace hs:=hs.aS zc;refine eC 8 13 hs (fun _ _ hs=>DW a A1 c1 D1 d1 hc1 hd1 oM oM _ _ hs.g hs.f.q.2.1 hs.f.q.1) ?_;rintro _ _ _ _ _ hs ⟨zk,zl,rfl,zd,ze⟩;replace hs:=hs.aS ze;refine eC 9 14 hs (fun _ _ hs=>oE b.num A2 c2 hc2 oM (a.den:Int) zk zl zd (show (lim (a.den)).length≤2000000000 by omega) _ _ hs.g hs.f.q.1 hs.f.1) ?_;rintro _ _ _ _ _ hs ⟨zm,zn,rfl,zf,zg⟩;replace hs:=hs.aS zg;exact aq 10 15 hs (fun _ _ hs=>vq (a.num*(b.den:Int)) zi zj zb oM (b.num*(a.den:Int)) zm zn zf oM _ _ hs.g hs.f.r.1 hs.f.1) (fun _ _ hs=>cg hs (fun _ _ hs=>tV 11 4 (iV (dh (a.num*(b.den:Int)) (b.num*(a.den:Int)))) (tN (kX (hs.ret [] (iV (dh (a.num*(b.den:Int)) (b.num*(a.den:Int)))) rfl)))))
theorem qg {z:Int}(h0 : -9223372036854775808≤z)(h1:z<9223372036854775808):(lim (aa z)).length≤2:=dK (by unfold aa;omega)
theorem ES (z:Int)(h0 : -9223372036854775808≤z)(h1:z<9223372036854775808)(w:World)(h:Hp)(g:G w h):CR 17 #[iV z] w h (fun v h1=>RQ h1 v (z:Rat)):=by
 have hs:=sS g;refine go Tryz.func17 [(0,iV z)] rfl (aA (lA 2 28 ([qF,sZ,sZ]) hs (fun b1 w2 h3 hs=>aJ (lL hs [.m 3 0] (lC 4 hs (oo z oM oM _ _ hs.g) ?_)))));rintro _ w8 h9 hs ⟨A4,c5,rfl,hc6,hA7⟩;replace hs:=hs.aS hA7;refine lC 5 hs (l6 1 oM _ _ hs.g) ?_;rintro _ _ _ hs ⟨za,zb,rfl,zc,zd⟩;replace hs:=hs.aS zd;exact lL hs [.v 6 (.agg #[.bool (ai z),qS A4 ((lim (aa z)).length) c5,qS za ((lim 1).length) zb])] (lP 0 0 ([.bool (ai z),qS A4 ((lim (aa z)).length) c5,qS za ((lim 1).length) zb]) hs (fun _ hs=>ac hs [(0,0,3)] (.agg #[.bool (ai z),qS A4 ((lim (aa z)).length) c5,qS za ((lim 1).length) zb]) (by unfold RQ;rw[Rat.num_intCast,Rat.den_intCast];exact ⟨_,_,_,_,rfl,hc6,zc,hs.f.2.1,hs.f.1⟩)))
theorem CE {P:Program}{Γ:bG}{o:Oper}{t u:TypeId}{x y:Operand}{k ky:IntKind}{a n:Nat}(ho:o.op=.binOp .shr t x y u)(hx:ev Γ x=.int k (a:Int))(hy:ev Γ y=.int ky (n:Int))(hn:n≤k.bits)(w:World) :
  (execOp (ev Γ) o).run P w=.ok (.value (.int k ((a/2^n:Nat):Int))) w:=by
 have:=Du (P:=P) ho hx hy hn w;rw[show ((a:Int)/2^n)=((a/2^n:Nat):Int) by simp] at this
 exact this
theorem sv {P:Program}{Γ:bG}{o:Oper}{t u:TypeId}{x y:Operand}{ky:IntKind}{a n:Nat}(ho:o.op=.binOp .shl t x y u)(hx:ev Γ x=.int .u32 (a:Int))(hy:ev Γ y=.int ky (n:Int))(hn:n≤32)(hf:a*2^n<4294967296)(w:World) :
  (execOp (ev Γ) o).run P w=.ok (.value (.int .u32 ((a*2^n:Nat):Int))) w:=by
 have:=C0 (P:=P) ho hx hy hn w;rw[show ((a:Int)*2^n)=((a*2^n:Nat):Int) by simp,Dq hf] at this
 exact this
theorem qW (a:Nat)(A:Option Addr)(c:Nat)(hc:(lim a).length≤c)(hLa:(lim a).length≤4000000000)(w:World)(h:Hp)(g:G w h)(hA:S3 A (lim a) h):CR 80 #[.slice A ((lim a).length) c] w h (fun v h1=>∃ A,v=.slice A ((nb a+7)/8) ((nb a+7)/8)∧SlO 1 kb 0 h1 A (eT a ((nb a+7)/8))):=by
 have hs:=((sS g).aS hA);have hna:=nM a;refine go Tryz.func80 [(0,qS A ((lim a).length) c)] rfl (ab hs [.v 2 (sZ)] (aJ (lL hs [.m 6 0] (ah 7 hs (tA a A c hc hLa _ _ hs.g hs.f.1) (fun w1 h2 hs=>bu 8 ((nb a:Nat)+7) ((nb a)+7) (lV 9 (nV (((nb a)+7)/8)) ?_ (hr:=aU (cZ (t:=3) (u:=3) (x:=.tmp 8) (y:=.const (iV 8)) (k:=.i64) (a:=(((nb a)+7:Nat):Int)) (b:=(8:Int)) kR kR kR oM _) (cO ((nb a)+7) 8 oM))))))));refine lL hs [.m 3 9] (aJ (lL hs [.m 10 3] (lK 11 5 (((nb a)+7)/8:Nat) 1 1 (.int .u8 0) kb 0 hs (fun b3 w4 h5 hs=>?_))));have hl6:(List.replicate (((nb a)+7)/8:Nat) 0).length=(((nb a)+7)/8:Nat):=by simp
 refine lL hs [.m 4 11] (ae (ab hs [.v 5 (iV 0)] (bc ?_)));refine bJ _ (CG.loop (fun μ_ Γ w_=>∃ (i:Nat) (l:List Nat) (h_:Hp),μ_=((nb a+7)/8)-i∧Γ=[(0,qS A ((lim a).length) c),(2,sZ),(3,nV (((nb a)+7)/8)),(4,qS (sB b3) (((nb a)+7)/8:Nat) (((nb a)+7)/8:Nat)),(5,nV i)]∧SS w h w_ h_ [⟨b3,5,(l).flatMap kb⟩] [] [S3 A (lim a)]∧i≤((nb a+7)/8)∧l.length=((nb a+7)/8)∧(∀ j,j<i→l.getD (((nb a+7)/8)-1-j) 0=a/256^j%256)) _ ⟨0,List.replicate (((nb a)+7)/8:Nat) 0,h5,rfl,rfl,hs.to _ _,Nat.zero_le _,hl6,(fun j hj=>absurd hj oM)⟩ ?_);rintro _ _ w7 ⟨i,l,h8,hm9,rfl,hs,hi,hll,hg⟩;have hai:=(Ld.lim a).get (i/4);refine cQ (ab hs [.m 12 5,.m 13 3] ?_);cases za:(decide ((i:Int)<((((nb a)+7)/8:Nat):Int)))
 ·
  have zb:=oF za;refine lB 14 za (af (CG.exit ?_))
  show CG _ _ _ _ _ _ _ _
  refine ab hs [.m 34 4,.m 2 34] (lN (kX ?_));have him:i=((nb a+7)/8):=by omega
  have hlb:l=eT a ((nb a+7)/8):=od hll (fun j hj=>hg j oM);rw[hlb] at hs
  obtain ⟨_,hs,sg12,lo13,bc14⟩:=hs.pub 0;replace hs:=(hs.to [] []).aS (SlO.of_flat (sz:=1) (f:=kb) (d:=0) (b:=b3) (o:=0) (l:=eT a ((nb a+7)/8)) (fun _=>rfl) sg12);exact hs.ret [] (qS (sB b3) (((nb a)+7)/8:Nat) (((nb a)+7)/8:Nat)) (⟨sB b3,rfl,hs.f.1⟩)
 have zb:=oT za;refine lB 14 za (am (cK (cQ (kZ (kQ (lL hs [.m 17 4,.m 18 3] (bu 19 ((((nb a)+7)/8:Nat)-1) ((((nb a)+7)/8:Nat)-1) ?_)))))));refine lL hs [.m 20 5] (bu 21 (((((nb a)+7)/8:Nat)-1:Nat)-(i:Nat)) (((((nb a)+7)/8:Nat)-1:Nat)-i) ?_);refine lL hs [.m 22 0,.m 23 5] (lV 24 (nV (i/4)) ?_ (hr:=aU (cZ (t:=3) (u:=3) (x:=.tmp 23) (y:=.const (iV 4)) (k:=.i64) (a:=(i:Int)) (b:=(4:Int)) kR kR kR oM _) (cO i 4 oM)));refine lX 25 A ((lim a).length) c 1 (i/4:Nat) (i/4) ((hs.f.1).ok oM) (lH 26 (mW ((lim a).getD (i/4) 0)) hs ((hs.f.1).el (i/4) oM) (lL hs [.m 27 5] (lV 28 (nV (i%4)) ?_ (hr:=aU (dO (t:=3) (u:=3) (x:=.tmp 27) (y:=.const (iV 4)) (k:=.i64) (a:=(i:Int)) (b:=(4:Int)) kR kR kR oM _) (cl i 4)))));refine bu 29 (8*(i%4:Nat)) (8*(i%4)) (lV 30 (mV (8*(i%4))) ?_ (hr:=rU (((8*(i%4):Nat):Int)) kR (bg oM oM)));refine lV 31 (mW ((lim a).getD (i/4) 0/2^(8*(i%4)))) ?_ (hr:=CE (t:=138) (u:=139) (x:=.tmp 26) (y:=.tmp 30) (k:=.u32) (ky:=.u64) (a:=(lim a).getD (i/4) 0) (n:=8*(i%4)) kR kR kR (show 8*(i%4)≤32 by omega) _);refine lV 32 (.int .u8 ((lim a).getD (i/4) 0/2^(8*(i%4))%256:Nat)) ?_ (hr:=aU (n:=IntKind.wrap .u8 (((lim a).getD (i/4) 0/2^(8*(i%4)):Nat):Int)) kR (ve _));refine lX 33 (sB b3) (((nb a)+7)/8:Nat) (((nb a)+7)/8:Nat) 1 (((((nb a)+7)/8:Nat)-1:Nat)-i:Nat) (((((nb a)+7)/8:Nat)-1:Nat)-i:Nat) rfl (lW 0 l kb 1 (((((nb a)+7)/8:Nat)-1:Nat)-i:Nat) ((lim a).getD (i/4) 0/2^(8*(i%4))%256:Nat) hs oM (fun _ hs=>?_));have zc:((l).set (((((nb a)+7)/8:Nat)-1:Nat)-i:Nat) ((lim a).getD (i/4) 0/2^(8*(i%4))%256:Nat)).length=(((nb a)+7)/8:Nat):=by rw[List.length_set];exact hll
 replace hs:=hs.to [⟨b3,5,((l).set (((((nb a)+7)/8:Nat)-1:Nat)-i:Nat) ((lim a).getD (i/4) 0/2^(8*(i%4))%256:Nat)).flatMap kb⟩] [];refine lN (kQ (lL hs [.m 15 5] (bu 16 ((i:Nat)+1) (i+1) ?_)));refine lL hs [.m 5 16] (lD ?_);intro a_ ka;refine ⟨_,_,?_,⟨i+1,(l).set (((((nb a)+7)/8:Nat)-1:Nat)-i:Nat) ((lim a).getD (i/4) 0/2^(8*(i%4))%256:Nat),h8,rfl,rfl,hs.to _ _,oM,zc,(fC hll oM hg (ry a i))⟩,ka.to _ kR⟩
 omega
theorem qI {n m:Nat}(h:n<256^m):∀ j,j<(m+3)/4→(List.replicate ((m+3)/4) 0).getD j 0=d8 n (m-0) j:=fun j hj=>by
 rw[Nat.sub_zero,tB h];simp[hj]
theorem qN {l:List Nat}{n m i x:Nat}(hi:i<m)(hl:l.length=(m+3)/4)(hv:∀ j,j<(m+3)/4→l.getD j 0=d8 n (m-i) j)(hx:x=d8 n (m-1-i) ((m-1-i)/4)) :
  ∀ j,j<(m+3)/4→(l.set ((m-1-i)/4) x).getD j 0=d8 n (m-(i+1)) j:=by
 intro j hj;rw[show m-(i+1)=m-1-i by omega]
 by_cases e:j=(m-1-i)/4
 ·subst e
  have:(m-1-i)/4<l.length:=by omega
  simp[this,hx]
 ·rw[kB,if_neg e,show m-1-i+1=m-i by omega,←hv j hj]
  simp only[List.getD_eq_getElem?_getD]
  rw[List.getElem?_set_ne (Ne.symm e)]
theorem oK {n k:Nat}:d8 n (k+1) (k/4) ||| (n/256^k%256)*2^(8*(k%4))=d8 n k (k/4):=by rw[kB n k (k/4),if_pos rfl]
theorem kK {b k:Nat}(hb:b<256):b*2^(8*(k%4))<4294967296:=by
 have:k%4=0∨k%4=1∨k%4=2∨k%4=3:=by omega
 rcases this with e|e|e|e<;>rw[e]<;>omega
theorem tE {l:List Nat}{n m:Nat}(hn:n<256^m)(hl:l.length=(m+3)/4)(hv:∀ j,j<(m+3)/4→l.getD j 0=d8 n (m-m) j):aj 4294967296 l=n∧Ld l:=by
 constructor
 ·rw[←iE]
  refine fP l n (fun j hj=>by rw[hv j oM,Nat.sub_self,qG]) ?_;refine Nat.lt_of_lt_of_le hn ?_;rw[hl,show (256:Nat)=2^8 by rfl,show (4294967296:Nat)=2^32 by rfl,←Nat.pow_mul,←Nat.pow_mul];exact Nat.pow_le_pow_right oM oM
 ·intro x hx
  obtain ⟨j,hj,rfl⟩:=List.mem_iff_getElem.1 hx;have:=hv j oM;have e:l[j]=l.getD j 0:=by simp[hj]
  rw[e,this];exact l8 _ _ _
theorem sY (n m:Nat)(A:Option Addr)(cap:Nat)(hc:m≤cap)(hm:m≤1099511627776)(hn:n<256^m)(w:World)(h:Hp)(g:G w h)(hA:SlO 1 kb 0 h A (eT n m)):CR 150 #[.slice A m cap] w h (fun v h1=>RN h1 v n):=by
 have hs:=((sS g).aS hA);have hbl:=gX n m;refine go Tryz.func150 [(0,qS A m cap)] rfl (ab hs [.v 2 (sZ)] (aJ (lL hs [.m 6 0,.v 7 (nV m)] (bu 8 ((m:Nat)+3) (m+3) ?_))));refine lV 9 (nV ((m+3)/4)) ?_ (hr:=aU (cZ (t:=3) (u:=3) (x:=.tmp 8) (y:=.const (iV 4)) (k:=.i64) (a:=((m+3:Nat):Int)) (b:=(4:Int)) kR kR kR oM _) (cO (m+3) 4 oM));refine lK 10 138 ((m+3)/4) 1 4 (uW 0) ct 0 hs (fun b1 w2 h3 hs=>?_);have hl4:(List.replicate ((m+3)/4) 0).length=((m+3)/4):=by simp
 refine lL hs [.m 3 10] (ae (ab hs [.v 4 (iV 0)] (bc ?_)));refine bJ _ (CG.loop (fun μ_ Γ w_=>∃ (i:Nat) (l:List Nat) (h_:Hp),μ_=m-i∧Γ=[(0,qS A m cap),(2,sZ),(3,qS (sB b1) ((m+3)/4) ((m+3)/4)),(4,nV i)]∧SS w h w_ h_ [⟨b1,138,(l).flatMap ct⟩] [] [fun h_=>SlO 1 kb 0 h_ A (eT n m)]∧i≤m∧l.length=(m+3)/4∧(∀ j,j<(m+3)/4→l.getD j 0=d8 n (m-i) j)) _ ⟨0,List.replicate ((m+3)/4) 0,h3,rfl,rfl,hs.to _ _,Nat.zero_le _,hl4,(qI hn)⟩ ?_);rintro _ _ w5 ⟨i,l,h6,hm7,rfl,hs,hi,hll,hv⟩;refine cQ (ab hs [.m 11 4,.m 12 0,.v 13 (nV m)] ?_);cases hb8:(decide ((i:Int)<(m:Int)))
 ·
  have phb8:=oF hb8;refine lB 14 hb8 (af (CG.exit ?_))
  show CG _ _ _ _ _ _ _ _
  refine ab hs [.m 42 3] ?_;have him:i=m:=by omega
  rw[him] at hv
  obtain ⟨hf1,hf2⟩:=tE hn hll hv;obtain ⟨h9,hs,sg10,lo11,bc12⟩:=hs.pub 0;replace hs:=(hs.to [] []).aS (SlO.of_flat (sz:=1) (f:=ct) (d:=0) (b:=b1) (o:=0) (l:=l) (fun _=>rfl) sg10);exact ah 43 hs (kU (sB b1) ((m+3)/4) l ((m+3)/4) hll oM oM _ _ hs.g hs.f.1) (fun _ _ hs=>lL hs [.m 2 43] (ac hs [] (qS (sB b1) (tl l ((m+3)/4)) ((m+3)/4)) (RN.trim hf2 hf1 hll oM hs.f.1)))
 have phb8:=oT hb8;refine lB 14 hb8 (am (cK (cQ (kZ (ab hs [.m 17 0,.v 18 (nV m)] (bu 19 ((m:Nat)-1) (m-1) ?_))))));refine lL hs [.m 20 4] (bu 21 ((m-1:Nat)-(i:Nat)) ((m-1)-i) ?_);refine lL hs [.m 5 21] (lN (cR 19 [] mixed hs ar ?_));refine eV 0 22 (qS (sB b1) ((m+3)/4) ((m+3)/4)) (eV 1 23 (nV ((m-1)-i)) (eV 2 24 (nV (((m-1)-i)/4)) ?_ (hv:=fun _=>aU (cZ (t:=3) (u:=3) (x:=.tmp 23) (y:=.const (iV 4)) (k:=.i64) (a:=(((m-1)-i:Nat):Int)) (b:=(4:Int)) kR kR kR oM _) (cO ((m-1)-i) 4 oM))));refine eV 3 25 (qS (sB b1) ((m+3)/4) ((m+3)/4)) (eV 4 26 (nV ((m-1)-i)) (eV 5 27 (nV (((m-1)-i)/4)) ?_ (hv:=fun _=>aU (cZ (t:=3) (u:=3) (x:=.tmp 26) (y:=.const (iV 4)) (k:=.i64) (a:=(((m-1)-i:Nat):Int)) (b:=(4:Int)) kR kR kR oM _) (cO ((m-1)-i) 4 oM))));refine eX 6 28 (sB b1) ((m+3)/4) ((m+3)/4) 1 (((m-1)-i)/4:Nat) (((m-1)-i)/4:Nat) rfl (eQ 7 29 0 l ct 1 0 (((m-1)-i)/4:Nat) (mW ((l).getD (((m-1)-i)/4:Nat) 0)) hs oM (eV 8 30 (qS A m cap) (eV 9 31 (nV i) (eX 10 32 A m cap 1 (i:Nat) i ((hs.f.1).ok oM) ?_))));have hvk:=hv ((m-1-i)/4) oM;have hor:l.getD ((m-1-i)/4) 0 ||| (n/256^(m-1-i)%256)*2^(8*((m-1-i)%4))=d8 n (m-1-i) ((m-1-i)/4):=by rw[hvk,show m-i=m-1-i+1 by omega];exact oK
 have hlt:l.getD ((m-1-i)/4) 0<4294967296:=by rw[hvk];exact l8 _ _ _
 have hvk:=hv ((m-1-i)/4) oM;have hor:l.getD ((m-1-i)/4) 0 ||| (n/256^(m-1-i)%256)*2^(8*((m-1-i)%4))=d8 n (m-1-i) ((m-1-i)/4):=by rw[hvk,show m-i=m-1-i+1 by omega];exact oK
 have hlt:l.getD ((m-1-i)/4) 0<4294967296:=by rw[hvk];exact l8 _ _ _
 refine FJ 11 33 (.int .u8 ((eT n m).getD i 0:Nat)) hs ((hs.f.1).el i oM) (by rw[gj n m _ oM]) (eV 12 34 (mW (n/256^(m-1-i)%256)) ?_ (hv:=fun _=>rT (((n/256^(m-1-i)%256:Nat):Int)) kR (n4 oM oM)));refine eV 13 35 (nV ((m-1)-i)) (eV 14 36 (nV (((m-1)-i)%4)) ?_ (hv:=fun _=>aU (dO (t:=3) (u:=3) (x:=.tmp 35) (y:=.const (iV 4)) (k:=.i64) (a:=(((m-1)-i:Nat):Int)) (b:=(4:Int)) kR kR kR oM _) (cl ((m-1)-i) 4)));refine j7 15 37 (8*(((m-1)-i)%4:Nat)) (8*(((m-1)-i)%4:Nat)) (eV 16 38 (mV (8*(((m-1)-i)%4:Nat))) ?_ (hv:=fun _=>rU (((8*(((m-1)-i)%4:Nat):Nat):Int)) kR (bg oM oM)));refine eV 17 39 (mW ((n/256^(m-1-i)%256)*2^(8*((m-1-i)%4)))) ?_ (hv:=fun _=>sv (t:=138) (u:=139) (x:=.tmp 34) (y:=.tmp 38) (ky:=.u64) (a:=n/256^(m-1-i)%256) (n:=8*((m-1-i)%4)) kR kR kR oM (kK oM) _);refine eV 18 40 (mW (d8 n (m-1-i) ((m-1-i)/4))) ?_ (hv:=fun _=>aU (BA (t:=138) (u:=138) (x:=.tmp 29) (y:=.tmp 39) (a:=l.getD ((m-1-i)/4) 0) (b:=(n/256^(m-1-i)%256)*2^(8*((m-1-i)%4))) kR kR kR hlt (kK oM) _) (congrArg Int.ofNat hor));refine cg hs (fun _ zb hs=>tX 19 41 (sB b1) ((m+3)/4) ((m+3)/4) 1 (((m-1)-i)/4:Nat) (((m-1)-i)/4:Nat) rfl (tW 20 0 l ct 1 (((m-1)-i)/4:Nat) (d8 n (m-1-i) ((m-1-i)/4):Nat) hs oM (fun _ hs=>?_)));have za:((l).set (((m-1)-i)/4:Nat) (d8 n (m-1-i) ((m-1-i)/4):Nat)).length=((m+3)/4):=by rw[List.length_set];exact hll
 replace hs:=hs.to [⟨b1,138,((l).set (((m-1)-i)/4:Nat) (d8 n (m-1-i) ((m-1-i)/4):Nat)).flatMap ct⟩] [];refine tN (kQ (lL hs [.m 15 4] (bu 16 ((i:Nat)+1) (i+1) ?_)));refine lL hs [.m 4 16] (lD ?_);intro a_ ka;refine ⟨_,_,?_,⟨i+1,(l).set (((m-1)-i)/4:Nat) (d8 n (m-1-i) ((m-1-i)/4):Nat),zb,rfl,rfl,hs.to _ _,oM,za,(qN oM hll hv rfl)⟩,ka.to _ kR⟩
 omega
def eF (q:Rat):Rat:=if q.num<0 then -q else q
theorem jK (q:Rat):(eF q).num=((aa q.num:Nat):Int):=by
 unfold eF aa;split
 ·rw[Rat.neg_num];omega
 ·omega
theorem np (q:Rat):(eF q).den=q.den:=by
 unfold eF;split
 ·rw[Rat.neg_den]
 ·rfl
theorem LQ.ln {q:Rat}(h:LQ 100000000 q):(lim (aa q.num)).length≤300000000:=Nat.le_trans (pL _) (by have:=h.1;omega)
theorem LQ.ld {q:Rat}(h:LQ 100000000 q):(lim q.den).length≤300000000:=Nat.le_trans (pL _) (by have:=h.2;omega)
theorem nl {k:Nat}{q:Rat}(h:LQ k q)(hk:k≤100000000:=by omega):(lim (aa q.num)).length≤300000000:=LQ.ln (h.mono hk)
theorem nD {k:Nat}{q:Rat}(h:LQ k q)(hk:k≤100000000:=by omega):(lim q.den).length≤300000000:=LQ.ld (h.mono hk)
theorem LQ.abs {k:Nat}{q:Rat}(h:LQ k q):LQ k (eF q):=⟨by rw[jK];exact h.1,by rw[np];exact h.2⟩
theorem LQ.sub {k l:Nat}{a b:Rat}(ha:LQ k a)(hb:LQ l b):LQ (k+l+1) (a-b):=by rw[Rat.sub_eq_add_neg];exact ha.add hb.neg
theorem LQ.inv {k:Nat}{q:Rat}(h:LQ k q):LQ k q⁻¹:=by
 by_cases hz:q.num=0
 ·have:q=0:=by rw[←Rat.num_eq_zero];exact hz
  subst this;rw[Rat.inv_zero];exact h
 ·obtain ⟨h1,h2⟩:=pR q hz
  exact ⟨by rw[h1,dR];exact h.2,by rw[h2];exact h.1⟩
theorem LQ.div {k l:Nat}{a b:Rat}(ha:LQ k a)(hb:LQ l b):LQ (k+l) (a/b):=by rw[Rat.div_def];exact ha.mul hb.inv
theorem LQ.int {z:Int}(h0 : -9223372036854775808≤z)(h1:z≤9223372036854775807):LQ 1 (z:Rat):=⟨by rw[Rat.num_intCast];exact fc.2 (by unfold aa;omega),by rw[Rat.den_intCast];exact fc.2 oM⟩
theorem LQ.lit {z:Int}(h : -9223372036854775808≤z∧z≤9223372036854775807):LQ 1 (z:Rat):=LQ.int h.1 h.2
def Bn (a b:List Rat):Nat→Rat
  | 0=>0
  | k+1=>Bn a b k+a.getD k 0*b.getD k 0
theorem j3 (a:Nat)(A:Option Addr)(c:Nat)(hc:(lim a).length≤c)(b:Nat)(D:Option Addr)(d:Nat)(hd:(lim b).length≤d)(hLa:(lim a).length≤3000000000)(hLb:(lim b).length≤1)(hb:0<b)(w:World)(h:Hp)(g:G w h)(hA:S3 A (lim a) h)(hD:S3 D (lim b) h):CR 156 #[.slice A (lim a).length c,.slice D (lim b).length d] w h (fun v h1=>∃ v1 v2,v=.tuple #[v1,v2]∧RN h1 v1 (a/b)∧RN h1 v2 (a%b)):=by
 have hp:=ck.2 hb
 rcases Nat.lt_or_ge a b with h1|h1
 ·exact qL a A c hc b D d hd hLa oM h1 w h g hA hD
 ·exact nW a A c hc b D d hd hLa oM h1 oM w h g hA hD
theorem t6 (a:Nat)(A:Option Addr)(c:Nat)(hc:(lim a).length≤c)(b:Nat)(D:Option Addr)(d:Nat)(hd:(lim b).length≤d)(hLa:(lim a).length≤3000000000)(hLb:(lim b).length≤1)(w:World)(h:Hp)(g:G w h)(hA:S3 A (lim a) h)(hD:S3 D (lim b) h):CR 155 #[.slice A ((lim a).length) c,.slice D ((lim b).length) d] w h (fun v h1=>RN h1 v (Nat.gcd a b)):=by
 have hs:=(((sS g).aS hA).aS hD);refine go Tryz.func155 [(0,qS A ((lim a).length) c),(1,qS D ((lim b).length) d)] rfl (ab hs [.v 4 (sZ)] (ae (kZ ?_)));replace hs:=hs.aS hs.f.1;replace hs:=hs.aS hs.f.r.1;refine bJ _ (CG.loop (fun μ_ Γ w_=>∃ (x:Nat) (A1:Option Addr) (c1:Nat) (y:Nat) (A2:Option Addr) (c2:Nat) (h_:Hp),μ_=y∧Γ=[(4,sZ),(0,qS A1 ((lim x).length) c1),(1,qS A2 ((lim y).length) c2)]∧SS w h w_ h_ [] [] [S3 A1 (lim x),S3 A2 (lim y),S3 D (lim b),S3 A (lim a)]∧(lim x).length≤c1∧(lim y).length≤c2∧(lim x).length≤3000000000∧(lim y).length≤1∧Nat.gcd x y=Nat.gcd a b) _ ⟨a,A,c,b,D,d,h,rfl,rfl,hs.to _ _,hc,hd,hLa,hLb,rfl⟩ ?_);rintro _ _ w1 ⟨x,A1,c1,y,A2,c2,h2,hm3,rfl,hs,hc1,hc2,hl1,hl2,hG⟩;refine cQ (ab hs [.m 7 1,.v 8 (nV ((lim y).length))] ?_);cases hb4:(decide ((0:Int)<(((lim y).length:Nat):Int)))
 ·
  have phb4:=oF hb4;refine lB 9 hb4 (af (CG.exit ?_))
  show CG _ _ _ _ _ _ _ _
  refine ab hs [.m 18 0,.m 4 18] (lN (kX ?_));have hy0:y=0:=Nat.eq_zero_of_not_pos (fun h_=>by have:=ck.2 h_;omega);exact hs.ret [] (qS A1 ((lim x).length) c1) (by rw[←hG,hy0,Nat.gcd_zero_right];exact ⟨A1,c1,rfl,hc1,hs.f.1⟩)
 have phb4:=oT hb4;refine lB 9 hb4 (am (cK (kZ (ab hs [.m 11 0,.m 12 1] (lC 13 hs (j3 x A1 c1 hc1 y A2 c2 hc2 oM oM (ck.1 oM) _ _ hs.g hs.f.1 hs.f.2.1) ?_)))));rintro _ w5 h6 hs ⟨_,_,rfl,⟨Aq,cq,rfl,hcq,hq⟩,⟨Ar,cr,rfl,hcr,hr⟩⟩;replace hs:=hs.aS hr;have hmd:=Nat.mod_lt x (ck.1 (show 0<(lim y).length by omega));have hml:=eh (show x%y≤y by omega);refine lL hs [.m 10 13,.v 14 (qS Aq (lim (x/y)).length cq),.v 15 (qS Ar ((lim (x%y)).length) cr),.m 5 14,.m 6 15] (aJ (lL hs [.m 16 1,.m 0 16] (lN (kQ (lL hs [.m 17 6,.m 1 17] (lD ?_))))));intro a_ ka;replace hs:=((hs.tl.tl.tl.aS hs.f.1).aS hs.f.r.1);refine ⟨_,_,?_,⟨y,A2,c2,x%y,Ar,cr,h6,rfl,rfl,hs.to _ _,hc2,hcr,oM,oM,(by rw[km];exact hG)⟩,ka.to _ kR⟩
 omega
theorem qE (a:Nat)(A:Option Addr)(c:Nat)(hc:(lim a).length≤c)(b:Nat)(D:Option Addr)(d:Nat)(hd:(lim b).length≤d)(q:Nat)(hq:q=Nat.gcd a b)(hLa:(lim a).length≤3000000000)(hLb:(lim b).length≤1)(w:World)(h:Hp)(g:G w h)(hA:S3 A (lim a) h)(hD:S3 D (lim b) h):CR 155 #[.slice A (lim a).length c,.slice D (lim b).length d] w h (fun v h1=>RN h1 v q):=by
 subst hq;exact t6 a A c hc b D d hd hLa hLb w h g hA hD
theorem nS {z:Int}(h0 : -4294967296<z)(h1:z<4294967296):(lim (aa z)).length≤1:=dK (by unfold aa;omega)
theorem BK (x:Int)(A:Option Addr)(c:Nat)(hc:(lim (aa x)).length≤c)(hLx:(lim (aa x)).length≤2000000000)(y:Int)(D:Option Addr)(d:Nat)(hd:(lim (aa y)).length≤d)(hLy:(lim (aa y)).length≤1)(hd0:y≠0)(w:World)(h:Hp)(g:G w h)(hA:S3 A (lim (aa x)) h)(hD:S3 D (lim (aa y)) h):CR 120 #[.agg #[.bool (ai x),.slice A ((lim (aa x)).length) c],.agg #[.bool (ai y),.slice D ((lim (aa y)).length) d]] w h (fun v h1=>RQ h1 v (mkR x y)):=by
 have hs:=(((sS g).aS hA).aS hD);obtain ⟨hm1,hm2,hq0⟩:=p9 x y hd0;obtain ⟨q,hq⟩:∃ q,q=Nat.gcd (aa x) (aa y):=⟨_,rfl⟩;rw[←hq] at hm1 hm2 hq0
 have hql:(lim q).length≤1:=iy (by rw[hq];exact Nat.gcd_le_right _ (by unfold aa;omega)) hLy;refine go Tryz.func120 [(0,.agg #[.bool (ai x),qS A ((lim (aa x)).length) c]),(1,.agg #[.bool (ai y),qS D ((lim (aa y)).length) d])] rfl (aA (lA 2 26 ([.bool (ai x),qS A ((lim (aa x)).length) c]) hs (fun b1 w2 h3 hs=>lA 3 26 ([.bool (ai y),qS D ((lim (aa y)).length) d]) hs (fun b4 w5 h6 hs=>lA 4 28 ([qF,sZ,sZ]) hs (fun b7 w8 h9 hs=>aJ (lL hs [.v 10 (qP b1 1),.o 11 (qS A ((lim (aa x)).length) c) 2 1 1,.v 12 (qP b4 1),.o 13 (qS D ((lim (aa y)).length) d) 1 1 1] (lC 14 hs (qE (aa x) A c hc (aa y) D d hd q hq oM oM _ _ hs.g hs.f.2.1 hs.f.1) ?_)))))));rintro _ _ _ hs ⟨zf,zg,rfl,zc,zk⟩;replace hs:=hs.aS zk;refine lL hs [.m 5 14] (aJ (lL hs [.v 16 (qP b1 1),.o 17 (qS A ((lim (aa x)).length) c) 2 1 1,.m 18 5] (lC 19 hs (j3 (aa x) A c hc q zf zg zc oM oM hq0 _ _ hs.g hs.f.r.1 hs.f.1) ?_)));rintro _ _ _ hs ⟨_,v2_A16,rfl,⟨zi,zj,rfl,zl,zm⟩,-⟩;replace hs:=hs.aS zm;refine lL hs [.m 15 19,.v 20 (qS zi ((lim ((aa x)/q)).length) zj),.v 21 v2_A16,.m 6 20,.m 7 21] (aJ (lL hs [.v 23 (qP b4 1),.o 24 (qS D ((lim (aa y)).length) d) 1 1 1,.m 25 5] (lC 26 hs (j3 (aa y) D d hd q zf zg zc oM oM hq0 _ _ hs.g hs.f.r.1 hs.f.2.1) ?_)));rintro _ _ _ hs ⟨_,v2_A22,rfl,⟨za,zb,rfl,zn,zo⟩,-⟩;replace hs:=hs.aS zo;refine lL hs [.m 22 26,.v 27 (qS za ((lim ((aa y)/q)).length) zb),.v 28 v2_A22,.m 8 27,.m 9 28] (aJ (lL hs [.v 29 (pB b1),.o 30 (.bool (ai x)) 2 0 1,.v 31 (pB b4),.o 32 (.bool (ai y)) 1 0 1,.v 33 (.bool ((ai x) != (ai y))),.m 34 6] (lC 35 hs (rI ((ai x) != (ai y)) ((aa x)/q) zi zj zl _ _ hs.g hs.f.2.1) ?_)));rintro _ _ _ hs ⟨zd,ze,rfl,zp,zq⟩;replace hs:=hs.aS zq;exact lL hs [.m 36 8,.v 37 (.agg #[.bool (ai (bp ((ai x) != (ai y)) ((aa x)/q))),qS zd ((lim (aa (bp ((ai x) != (ai y)) ((aa x)/q)))).length) ze,qS za ((lim ((aa y)/q)).length) zb])] (lP 0 0 ([.bool (ai (bp ((ai x) != (ai y)) ((aa x)/q))),qS zd ((lim (aa (bp ((ai x) != (ai y)) ((aa x)/q)))).length) ze,qS za ((lim ((aa y)/q)).length) zb]) hs (fun _ hs=>ac hs [(0,0,3)] (.agg #[.bool (ai (bp ((ai x) != (ai y)) ((aa x)/q))),qS zd ((lim (aa (bp ((ai x) != (ai y)) ((aa x)/q)))).length) ze,qS za ((lim ((aa y)/q)).length) zb]) (by unfold RQ;rw[hm1,hm2];exact ⟨_,_,_,_,rfl,zp,zn,hs.f.1,hs.f.2.1⟩)))
theorem AK (x y:Int)(hy0:y≠0)(h0 : -9223372036854775808≤x)(h1:x<9223372036854775808)(h2 : -4294967296<y)(h3:y<4294967296)(w:World)(h:Hp)(g:G w h):CR 70 #[iV x,iV y] w h (fun v h1=>RQ h1 v (mkR x y)):=by
 have hs:=sS g;have hx_:=qg h0 h1;have hy_:=nS h2 h3;refine go Tryz.func70 [(0,iV x),(1,iV y)] rfl (aA (lA 4 28 ([qF,sZ,sZ]) hs (fun b1 w2 h3 hs=>aJ (lL hs [.m 5 0] (lC 6 hs (oo x oM oM _ _ hs.g) ?_)))));rintro _ w8 h9 hs ⟨A4,c5,rfl,hc6,hA7⟩;replace hs:=hs.aS hA7;refine lL hs [.m 7 1] (lC 8 hs (oo y oM oM _ _ hs.g) ?_);rintro _ _ _ hs ⟨zl,zm,rfl,ze,zf⟩;replace hs:=hs.aS zf;refine lC 9 hs (BK x A4 c5 hc6 oM y zl zm ze oM hy0 _ _ hs.g hs.f.2.1 hs.f.1) ?_;rintro _ _ _ hs ⟨za,zb,zc,zd,rfl,zg,zi,zj,zk⟩;replace hs:=hs.aP zj zk;exact lP 0 0 (x8 (mkR x y) za zb zc zd) hs (fun _ hs=>ac hs [(0,0,3)] (rG (mkR x y) za zb zc zd) (by skip;exact ⟨_,_,_,_,rfl,zg,zi,hs.f.2.1,hs.f.1⟩))
theorem D7 (a:Nat)(A:Option Addr)(c:Nat)(hc:(lim a).length≤c)(hl:(lim a).length≤300000000)(w:World)(h:Hp)(g:G w h)(hA:S3 A (lim a) h):CV 51 #[.slice A ((lim a).length) c] w h (nv a):=by
 have hs:=((sS g).aS hA);have hnb:=nM a;refine go Tryz.func51 [(0,qS A ((lim a).length) c)] rfl (aA (lA 2 39 ([uV 0,eS]) hs (fun b1 w2 h3 hs=>aJ (lL hs [.m 3 0] (lC 4 hs (qW a A c hc oM _ _ hs.g hs.f.1) ?_)))));rintro _ w6 h7 hs ⟨A4,rfl,hA5⟩;replace hs:=hs.aS hA5;exact ah 5 hs (rR a ((nb a+7)/8) A4 ((nb a+7)/8) (nR _) oM (rr a) _ _ hs.g hs.f.1) (fun w8 h9 hs=>lP 0 0 (nc a) hs (fun _ hs=>ac hs [(0,0,2)] (nv a) rfl))
theorem EX (z:Int)(A:Option Addr)(c:Nat)(hc:(lim (aa z)).length≤c)(hl:(lim (aa z)).length≤300000000)(w:World)(h:Hp)(g:G w h)(hA:S3 A (lim (aa z)) h):CV 49 #[.agg #[.bool (ai z),.slice A ((lim (aa z)).length) c]] w h (iv z):=by
 have hs:=((sS g).aS hA);have hwl:=wm (aa z);refine go Tryz.func49 [(0,.agg #[.bool (ai z),qS A ((lim (aa z)).length) c])] rfl (aA (lA 1 26 ([.bool (ai z),qS A ((lim (aa z)).length) c]) hs (fun b1 w2 h3 hs=>lA 2 41 ([qF,uV 0,eS]) hs (fun b4 w5 h6 hs=>ae (cR 6 [] mixed hs ar ?_)))));exact eV 0 3 (pB b1) (eO 1 4 [(1,0,1)] (.bool (ai z)) hs (eV 2 5 (qP b1 1) (eO 3 6 [(1,1,1)] (qS A ((lim (aa z)).length) c) hs (aq 4 7 hs (fun _ _ hs=>D7 (aa z) A c hc (by first|exact hl|exact LQ.ld hq|omega) _ _ hs.g hs.f.1) (fun w7 h8 hs=>aq 5 8 hs (fun _ _ hs=>eW (ai z) (aa z) oM _ _ hs.g) (fun w9 _ hs=>cg hs (fun _ _ hs=>tP 6 0 0 (ic (bp (ai z) (aa z))) hs (fun _ hs=>tN (kX (hs.ret [(0,0,3)] (iv (bp (ai z) (aa z))) (congrArg iv (tc z))))))))))))
theorem sa (q:Rat):mkR q.num ((q.den:Nat):Int)=q:=by
 unfold mkR;rw[if_neg oM];show mkRat q.num q.den=q;rw[Rat.mkRat_self]
theorem Fl (q:Rat)(A1:Option Addr)(c1:Nat)(D1:Option Addr)(d1:Nat)(hc1:(lim (aa q.num)).length≤c1)(hd1:(lim q.den).length≤d1)(hq:LQ 100000000 q)(w:World)(h:Hp)(g:G w h)(hA1:S3 A1 (lim (aa q.num)) h)(hD1:S3 D1 (lim q.den) h)(tb:Tab h):CV 23 #[rG q A1 c1 D1 d1] w h (qv q):=by
 have hs:=((((sS g).aS hA1).aS hD1).aB tb);refine go Tryz.func23 [(0,rG q A1 c1 D1 d1)] rfl (aA (lA 1 28 (x8 q A1 c1 D1 d1) hs (fun b1 w2 h3 hs=>lA 2 43 ([qF,uV 0,eS,uV 0,eS]) hs (fun b4 w5 h6 hs=>ae ?_))));have hsr:=hs;exact cR 12 [⟨11,3,.cells (List.toArray [qF,uV 0,eS,uV 0,eS]) 43 (0,0)⟩] mixed hs (bF (eP kR (fun _ _=>by kernel_rfl)) ar) (eV 0 6 (pB b1) (eO 1 7 [(1,0,2)] (.agg #[.bool (ai q.num),qS A1 ((lim (aa q.num)).length) c1]) hs (eV 3 9 (qP b1 2) (eO 4 10 [(1,2,1)] (qS D1 ((lim q.den).length) d1) hs (aq 2 8 hs (fun _ _ hs=>EX q.num A1 c1 hc1 (LQ.ln hq) _ _ hs.g hs.f.r.1) (fun w7 h8 hs=>aq 5 11 hs (fun _ _ hs=>D7 q.den D1 d1 hd1 (by first|exact hl|exact LQ.ld hq|omega) _ _ hs.g hs.f.2.1) (fun w9 _ hs=>aq 6 12 hs (fun _ _ hs=>dr q.den _ _ hs.g) (fun _ _ hs=>aq 7 13 hs (fun _ _ hs=>Dp q.num (q.den:Int) (by have:=q.den_pos;omega) (by have:=hq.1;omega) (by show (wds q.den).length≤_;have:=hq.2;omega) _ _ hs.g hs.f.1) (fun _ _ hs=>eV 8 5 (.tuple #[qv (mkR q.num (q.den:Int)),qT]) (eV 9 14 (qv (mkR q.num (q.den:Int))) (eV 10 15 qT (gL [] hsr hs 43 [qF,uV 0,eS,uV 0,eS] (fun _ _ b17 hs=>tP 12 0 0 (qc (mkR q.num (q.den:Int))) hs (fun _ hs=>tV 13 4 qT (qZ (lL hs [.o 16 (qv (mkR q.num (q.den:Int))) 0 0 5] (lP 1 0 (qc (mkR q.num (q.den:Int))) hs (fun _ hs=>ac hs [(1,0,5)] (qv (mkR q.num (q.den:Int))) (congrArg qv (sa q))))))))))))))))))))
theorem E7 (v:Value)(q:Rat)(hq:LQ 100000000 q)(w:World)(h:Hp)(g:G w h)(hv:RQ h v q)(tb:Tab h):CV 23 #[v] w h (qv q):=by
 obtain ⟨A,c,B,d,rfl,h1,h2,h3,h4⟩:=hv;exact Fl q A c B d h1 h2 hq w h g h3 h4 tb
theorem pg (n:Nat)(hl:(wds n).length≤100000000)(w:World)(h:Hp)(g:G w h):CR 115 #[nv n] w h (fun v h1=>RN h1 v n):=by
 have hs:=sS g;have hnb:=jA n;refine go Tryz.func115 [(0,nv n)] rfl (aA (lA 1 39 (nc n) hs (fun b1 w2 h3 hs=>lL hs [.v 2 (sZ)] (aJ (lL hs [.o 3 (nv n) 0 0 2] (lC 4 hs (sb n oM _ _ hs.g) ?_))))));rintro _ w6 h7 hs ⟨A4,rfl,hA5⟩;replace hs:=hs.aS hA5;refine lC 5 hs (sY n ((nb n+7)/8) A4 ((nb n+7)/8) (nR _) oM (rr n) _ _ hs.g hs.f.1) ?_;rintro _ _ _ hs ⟨A8,c9,rfl,za,zb⟩;replace hs:=hs.aS zb;exact lL hs [.m 2 5] (ac hs [] (qS A8 ((lim n).length) c9) (⟨_,_,rfl,za,hs.f.1⟩))
theorem vi (z:Int):bp (decide (z.sign<(0:Int))) (aa z)=z:=by
 rcases Int.lt_trichotomy z 0 with h|h|h
 ·rw[Int.sign_eq_neg_one_of_neg h];unfold bp aa;simp;omega
 ·subst h;rfl
 ·rw[Int.sign_eq_one_of_pos h];unfold bp aa;simp;omega
theorem wS (z:Int)(hl:(wds (aa z)).length≤100000000)(w:World)(h:Hp)(g:G w h):CR 113 #[iv z] w h (fun v h1=>RI h1 v z):=by
 have hs:=sS g;refine go Tryz.func113 [(0,iv z)] rfl (aA (lA 1 41 (ic z) hs (fun b1 w2 h3 hs=>lA 2 26 ([qF,sZ]) hs (fun b4 w5 h6 hs=>ae (cR 7 [] mixed hs ar ?_)))));refine eO 0 3 [(1,0,3)] (iv z) hs (eO 3 6 [(1,0,3)] (iv z) hs (aq 1 4 hs (fun _ _ hs=>jt z oM _ _ hs.g) (fun w7 h8 hs=>eV 2 5 (.bool (decide ((z.sign:Int)<(0:Int)))) (aq 4 7 hs (fun _ _ hs=>qi z _ _ hs.g) (fun w9 _ hs=>eC 5 8 hs (fun _ _ hs=>pg (aa z) (by first|exact hq.2|omega) _ _ hs.g) ?_)))));rintro _ _ _ _ _ hs ⟨zg,zi,rfl,zc,zd⟩;replace hs:=hs.aS zd;refine eC 6 9 hs (fun _ _ hs=>rI (decide ((z.sign:Int)<(0:Int))) (aa z) zg zi zc _ _ hs.g hs.f.1) ?_;rintro _ _ _ _ _ hs ⟨za,zb,rfl,ze,zf⟩;replace hs:=hs.aS zf;exact cg hs (fun _ _ hs=>tP 7 0 0 ([.bool (ai (bp (decide ((z.sign:Int)<(0:Int))) (aa z))),qS za ((lim (aa (bp (decide ((z.sign:Int)<(0:Int))) (aa z)))).length) zb]) hs (fun _ hs=>tN (kX (hs.ret [(0,0,2)] (.agg #[.bool (ai (bp (decide ((z.sign:Int)<(0:Int))) (aa z))),qS za ((lim (aa (bp (decide ((z.sign:Int)<(0:Int))) (aa z)))).length) zb]) (by rw[vi] at *;exact ⟨_,_,rfl,ze,hs.f.1⟩)))))
theorem EP (q:Rat)(hq:LQ 100000000 q)(w:World)(h:Hp)(g:G w h):CR 64 #[qv q] w h (fun v h1=>RQ h1 v q):=by
 have hs:=sS g;refine go Tryz.func64 [(0,qv q)] rfl (aA (lA 1 43 (qc q) hs (fun b1 w2 h3 hs=>lA 2 28 ([qF,sZ,sZ]) hs (fun b4 w5 h6 hs=>ae (cR 7 [] mixed hs ar ?_)))));refine eO 0 3 [(1,0,5)] (qv q) hs (eO 3 6 [(1,0,5)] (qv q) hs (aq 1 4 hs (fun _ _ hs=>EK q _ _ hs.g) (fun w7 h8 hs=>eC 2 5 hs (fun _ _ hs=>wS q.num hq.1 _ _ hs.g) ?_)));rintro _ _ _ _ _ hs ⟨A9,za,rfl,zd,ze⟩;replace hs:=hs.aS ze;refine aq 4 7 hs (fun _ _ hs=>en q hq _ _ hs.g) (fun _ _ hs=>eC 5 8 hs (fun _ _ hs=>pg q.den (by first|exact hq.2|omega) _ _ hs.g) ?_);rintro _ _ _ _ _ hs ⟨zb,zc,rfl,zf,zg⟩;replace hs:=hs.aS zg;exact eV 6 9 (rG q A9 za zb zc) (cg hs (fun _ _ hs=>tP 7 0 0 (x8 q A9 za zb zc) hs (fun _ hs=>tN (kX (hs.ret [(0,0,3)] (rG q A9 za zb zc) (⟨_,_,_,_,rfl,zd,zf,hs.f.2.1,hs.f.1⟩))))))
theorem LQ.mkR {n d:Int}(hd:d≠0)(h0 : -9223372036854775808≤n)(h1:n≤9223372036854775807)(h2 : -9223372036854775808≤d)(h3:d≤9223372036854775807):LQ 1 (mkR n d):=by
 unfold Go.Proofs.YtghfcfnkglnchaaGreatDoor.mkR
 have hp:0<aa d:=by unfold aa;omega
 obtain ⟨p1,p2,p3,p4⟩:=fV (if d<0 then -n else n) (aa d) hp;refine ⟨?_,?_⟩
 ·rw[p1];refine fc.2 (Nat.lt_of_le_of_lt (bQ _ _ p3) ?_)
  unfold aa;split<;>omega
 ·rw[p2];exact fc.2 (Nat.lt_of_le_of_lt (Nat.div_le_self _ _) (by unfold aa;omega))
def aF (n:Int)(m:Nat):Nat:=(n%(m:Int)).toNat
theorem cb (n:Int)(m:Nat)(h:0<m):aF n m<m:=by
 unfold aF
 have h1:=Int.emod_nonneg n (show (m:Int)≠0 by omega);have h2:=Int.emod_lt_of_pos n (show (0:Int)<m by omega)
 omega
theorem ne (n:Int)(m:Nat)(h:0<m):((aF n m:Nat):Int)=n%(m:Int):=by
 unfold aF
 have h1:=Int.emod_nonneg n (show (m:Int)≠0 by omega)
 omega
theorem nq (n:Int)(m:Nat)(hm:0<m)(hn:n<0):(n%(m:Int)=0∧n.tmod (m:Int)=0)∨(0<n%(m:Int)∧n.tmod (m:Int)=n%(m:Int)-m):=by
 have b1:=Int.emod_nonneg n (show (m:Int)≠0 by omega);rw[Int.tmod_eq_emod]
 by_cases h:(m:Int)∣n
 ·left
  rw[if_pos (.inr h)];have:=Int.emod_eq_zero_of_dvd h;exact ⟨this,by omega⟩
 ·right
  have h2:¬(n%(m:Int)=0):=fun h'=>h (Int.dvd_of_emod_eq_zero h')
  rw[if_neg (by intro h';rcases h' with h'|h';omega;exact h h')];refine ⟨by omega,by simp⟩
def lE (k:Nat):Nat:=match k with|0=>1|1=>1|2=>1|3=>2|4=>3|_=>4
theorem m8 (k:Nat):0<lE k:=by unfold lE;split<;>omega
theorem pj (k:Nat):lE k≤4:=by unfold lE;split<;>omega
def cI (n:Int):Rat:=mkR ((aF n 41:Int)-20) (lE (aF (n.tdiv 41) 6):Nat)
def BD (n:Int):Rat:=mkR ((aF n 9:Int)-4) (((aF (n.tdiv 9) 2:Nat):Int)+1)
theorem o4 (n:Int)(m:Int)(hm:1<m)(hn0 : -9223372036854775808≤n)(hn1:n≤9223372036854775807) : -9223372036854775808≤n.tdiv m∧n.tdiv m≤9223372036854775807:=by
 have h1:(n.tdiv m).natAbs≤n.natAbs/2:=by
  rw[Int.natAbs_tdiv];exact Nat.div_le_div_left oM oM
 omega
theorem uA {n:Int}{m:Nat}(hm:0<m)(h:n.tmod (m:Int)<0):n.tmod (m:Int)+m=((aF n m:Nat):Int):=by
 rw[ne n m hm]
 rcases Int.lt_or_le n 0 with hn|hn
 ·rcases nq n m hm hn with ⟨h1,h2⟩|⟨h1,h2⟩<;>omega
 ·rw[Int.tmod_eq_emod_of_nonneg hn] at h
  have:=Int.emod_nonneg n (show (m:Int)≠0 by omega)
  omega
theorem qn {n:Int}{m:Nat}(hm:0<m)(h:¬n.tmod (m:Int)<0):n.tmod (m:Int)=((aF n m:Nat):Int):=by
 rw[ne n m hm]
 rcases Int.lt_or_le n 0 with hn|hn
 ·rcases nq n m hm hn with ⟨h1,h2⟩|⟨h1,h2⟩
  ·omega
  ·have:=Int.emod_lt_of_pos n (show (0:Int)<m by omega)
   omega
 ·rw[Int.tmod_eq_emod_of_nonneg hn]
theorem v7 (n:Int){m:Nat}(hm:0<m) : -(m:Int)<n.tmod (m:Int)∧n.tmod (m:Int)<m:=by
 have h1:=Int.tmod_lt_of_pos n (show (0:Int)<m by omega);have h2:=Int.lt_tmod_of_pos n (show (0:Int)<m by omega);exact ⟨h2,h1⟩
theorem dI (n:Int)(m:Nat)(hm:0<m)(hm2:m<1000000)(w:World)(h:Hp)(g:G w h):CV 7 #[iV n,nV m] w h (nV (aF n m)):=by
 have hs:=sS g;obtain ⟨b1,b2⟩:=v7 n hm;refine go Tryz.func7 [(0,iV n),(1,nV m)] rfl (ab hs [.v 4 (iV 0)] (aJ (lL hs [.m 5 0,.m 6 1] (lV 7 (iV (n.tmod (m:Nat))) ?_ (hr:=dO (t:=3) (u:=3) (x:=.tmp 5) (y:=.tmp 6) (k:=.i64) (a:=n) (b:=(m:Nat)) kR kR kR oM _)))));refine lL hs [.m 0 7] (ae (ab hs [.m 8 0] ?_));cases hb1:(decide ((n.tmod (m:Nat):Int)<(0:Int)))
 ·
  have phb1:=oF hb1;exact lB 9 hb1 (af (cK (ab hs [.m 13 0,.m 4 13] (ac hs [] (iV (n.tmod (m:Nat))) (congrArg (Value.int .i64) (qn hm aM))))))
 have phb1:=oT hb1;refine lB 9 hb1 (am (kQ (lL hs [.m 10 0,.m 11 1] (lI 12 ((n.tmod (m:Nat))+(m:Nat)) ?_))));exact lL hs [.m 0 12] (aJ (lL hs [.m 13 0,.m 4 13] (ac hs [] (iV ((n.tmod (m:Nat))+(m:Nat))) (congrArg (Value.int .i64) (uA hm aM)))))
theorem sF (w:World):(Instr.index 135 (.agg #[.int .i64 1,.int .i64 1,.int .i64 1,.int .i64 2,.int .i64 3,.int .i64 4]) (.int .i64 0)).run Tryz.prog w=.ok (.int .i64 1) w:=by kernel_rfl
theorem uM (w:World):(Instr.index 135 (.agg #[.int .i64 1,.int .i64 1,.int .i64 1,.int .i64 2,.int .i64 3,.int .i64 4]) (.int .i64 1)).run Tryz.prog w=.ok (.int .i64 1) w:=by kernel_rfl
theorem rz (w:World):(Instr.index 135 (.agg #[.int .i64 1,.int .i64 1,.int .i64 1,.int .i64 2,.int .i64 3,.int .i64 4]) (.int .i64 2)).run Tryz.prog w=.ok (.int .i64 1) w:=by kernel_rfl
theorem rV (w:World):(Instr.index 135 (.agg #[.int .i64 1,.int .i64 1,.int .i64 1,.int .i64 2,.int .i64 3,.int .i64 4]) (.int .i64 3)).run Tryz.prog w=.ok (.int .i64 2) w:=by kernel_rfl
theorem tw (w:World):(Instr.index 135 (.agg #[.int .i64 1,.int .i64 1,.int .i64 1,.int .i64 2,.int .i64 3,.int .i64 4]) (.int .i64 4)).run Tryz.prog w=.ok (.int .i64 3) w:=by kernel_rfl
theorem rN (w:World):(Instr.index 135 (.agg #[.int .i64 1,.int .i64 1,.int .i64 1,.int .i64 2,.int .i64 3,.int .i64 4]) (.int .i64 5)).run Tryz.prog w=.ok (.int .i64 4) w:=by kernel_rfl
theorem Cr (k:Nat)(h:k<6)(w:World):(Instr.index 135 (.agg #[.int .i64 1,.int .i64 1,.int .i64 1,.int .i64 2,.int .i64 3,.int .i64 4]) (.int .i64 (k:Int))).run Tryz.prog w=.ok (.int .i64 ((lE k:Nat):Int)) w:=by
 have:k=0∨k=1∨k=2∨k=3∨k=4∨k=5:=by omega
 rcases this with rfl|rfl|rfl|rfl|rfl|rfl
 ·exact sF w
 ·exact uM w
 ·exact rz w
 ·exact rV w
 ·exact tw w
 ·exact rN w
theorem EC {Γ:bG}{o:Oper}{x y:Operand}(k:Nat)(h:k<6)(ho:o.op=.index 135 x y)(hx:ev Γ x=.agg #[.int .i64 1,.int .i64 1,.int .i64 1,.int .i64 2,.int .i64 3,.int .i64 4])(hy:ev Γ y=.int .i64 (k:Nat))(w:World) :
  (execOp (ev Γ) o).run Tryz.prog w=.ok (.value (.int .i64 (lE k:Nat))) w:=by
 unfold execOp;simp only[ho];rw[hx,hy,Sem.run_bind,Cr k h w];rfl
theorem hR (n:Int)(h0 : -9223372036854775808≤n)(h1:n≤9223372036854775807)(w:World)(h:Hp)(g:G w h):CR 40 #[iV n] w h (fun v h1=>RQ h1 v (cI n)):=by
 have hs:=sS g;obtain ⟨t0,t1⟩:=o4 n 41 oM h0 h1;have l1:=cb n 41 oM;have l2:=cb (n.tdiv 41) 6 oM;have p1:=m8 (aF (n.tdiv 41) 6);have p2:=pj (aF (n.tdiv 41) 6);refine go Tryz.func40 [(0,iV n)] rfl (aA (lA 2 28 ([qF,sZ,sZ]) hs (fun b1 w2 h3 hs=>aJ (lL hs [.m 3 0] (ah 4 hs (dI (n) 41 oM oM _ _ hs.g) (fun w5 h6 hs=>?_))))));have lp4:=cb (n) 41 oM;refine lI 5 ((aF (n) 41:Nat)-20) (lL hs [.v 6 (.agg #[iV 1,iV 1,iV 1,iV 2,iV 3,iV 4]),.m 7 0] (lV 8 (iV (n.tdiv 41)) ?_ (hr:=rS ((n.tdiv 41)) kR (gA oM oM))));refine ah 9 hs (dI (n.tdiv 41) 6 oM oM _ _ hs.g) (fun w8 h9 hs=>?_);have lp7:=cb (n.tdiv 41) 6 oM;refine lV 10 (nV (lE (aF (n.tdiv 41) 6))) ?_ (hr:=EC (x:=.tmp 6) (y:=.tmp 9) (aF (n.tdiv 41) 6) l2 kR kR kR _);refine lC 11 hs (AK ((aF (n) 41:Nat)-20) (lE (aF (n.tdiv 41) 6):Nat) oM oM oM oM oM _ _ hs.g) ?_;rintro _ _ _ hs ⟨za,zb,zc,zd,rfl,ze,zf,zg,zi⟩;replace hs:=hs.aP zg zi;exact lP 0 0 (x8 (cI n) za zb zc zd) hs (fun _ hs=>ac hs [(0,0,3)] (rG (cI n) za zb zc zd) (⟨_,_,_,_,rfl,ze,zf,hs.f.2.1,hs.f.1⟩))
theorem LQ.hand (n:Int):LQ 1 (cI n):=by
 unfold cI
 have l1:=cb n 41 oM;have p1:=m8 (aF (n.tdiv 41) 6);have p2:=pj (aF (n.tdiv 41) 6);exact LQ.mkR oM oM oM oM oM
abbrev RT:=Bool × Value × Value
def Bf (t:RT):List Value:=[.bool t.1,t.2.1,t.2.2]
def Bj:RT:=(false,undef,undef)
abbrev rA (t:RT):Value:=.agg #[.bool t.1,t.2.1,t.2.2]
abbrev Sr (A:Option Addr)(l:List RT):Hp→Prop:=fun h_=>SlO 3 Bf Bj h_ A l
def DR (t:RT):Value:=.agg #[.bool t.1,t.2.1,t.2.2]
structure RTs (h:Hp) (ts:List RT) (qs:List Rat):Prop where
  len:ts.length=qs.length
  at_:∀ i,i<qs.length→RQ h (DR (ts.getD i Bj)) (qs.getD i 0)
abbrev Rt (t:List RT)(l:List Rat):Hp→Prop:=fun h_=>RTs h_ t l
theorem RTs.gw {h h':Hp}{ts:List RT}{qs:List Rat}(r:RTs h ts qs)(u:Gw h h'):RTs h' ts qs:=⟨r.len,fun i hi=>(r.at_ i hi).gw u⟩
theorem SS.aT {t:List RT}{l:List Rat}{w0 w:World}{h0 h:Hp}{B:List Bx}{R:List Rw}{F:List (Hp→Prop)}(s:SS w0 h0 w h B R F)(p:RTs h t l):SS w0 h0 w h B R (Rt t l::F):=s.add (K:=Rt t l) p
theorem RTs.nil {h:Hp}:RTs h [] []:=⟨rfl,fun i hi=>by simp at hi⟩
theorem cp {α:Type}(l:List α)(x d:α)(i:Nat):(l++[x]).getD i d=if i<l.length then l.getD i d else if i=l.length then x else d:=by
 split
 ·rename_i h;simp[List.getElem?_append_left h]
 ·rename_i h
  split
  ·rename_i h2;subst h2;simp
  ·rename_i h2;simp[List.getElem?_eq_none (show (l++[x]).length≤i by simp;omega)]
theorem RTs.snoc {h:Hp}{ts:List RT}{qs:List Rat}(r:RTs h ts qs){t:RT}{q:Rat}(hq:RQ h (DR t) q):RTs h (ts++[t]) (qs++[q]):=by
 refine ⟨by simp[r.len],fun i hi=>?_⟩;rw[cp,cp,r.len]
 split
 ·rename_i h1;exact r.at_ i h1
 ·rename_i h1
  have:i=qs.length:=by simp at hi;omega
  rw[if_pos this,if_pos this];exact hq
theorem gK {α:Type}{l:List α}{k:Nat}(d:α)(h:k<l.length):l.take (k+1)=l.take k++[l.getD k d]:=by
 rw[List.take_add_one];simp[h]
def vc (v:Value):List Value:=[v]
abbrev Sv (A:Option Addr)(l:List Value):Hp→Prop:=fun h_=>SlO 1 vc undef h_ A l
def bR (zs:List Int):Nat→List Rat
  | 0=>[]
  | k+1=>bR zs k++[if k<zs.length then cI (zs.getD k 0) else 0]
theorem jX (zs:List Int)(k:Nat):(bR zs k).length=k:=by induction k with|zero=>rfl|succ k ih=>simp[bR,ih]
def i7 (zs:List Int):Prop:=∀ k,-9223372036854775808≤zs.getD k 0∧zs.getD k 0≤9223372036854775807
structure RVs (h:Hp) (vs:List Value) (qss:List (List Rat)):Prop where
  len:vs.length=qss.length
  at_:∀ i,i<qss.length→∃ A cap,∃ ts:List RT,vs.getD i undef=.slice A ts.length cap∧ts.length≤cap∧SlO 3 Bf Bj h A ts∧RTs h ts (qss.getD i [])
abbrev Ru (t:List Value)(l:List (List Rat)):Hp→Prop:=fun h_=>RVs h_ t l
structure QVs (h:Hp) (vs:List Value) (qss:List (List Rat)):Prop where
  len:vs.length=qss.length
  at_:∀ i,i<qss.length→E4 5 qc 0 h (vs.getD i undef) (qss.getD i [])
abbrev Qu (t:List Value)(l:List (List Rat)):Hp→Prop:=fun h_=>QVs h_ t l
theorem kI {zs:List Int}{k:Nat}{q:Rat}(hq:(if k<zs.length then cI (zs.getD k 0) else 0)=q){ts':List RT}{h':Hp}(hh:RTs h' ts' (bR zs k++[q])):RTs h' ts' (bR zs (k+1)):=by
 show RTs h' ts' (bR zs k++[_]);rw[hq];exact hh
theorem lU (zs:List Int):∀ n i,LQ 1 ((bR zs n).getD i 0)
  | 0,i=>LQ.lit (z:=0) kD
  | n + 1,i=>by
    show LQ 1 ((bR zs n++[_]).getD i 0)
    rw[cp]
    split
    · exact lU zs n i
    · split
      · split
        · exact LQ.hand _
        · exact LQ.lit (z:=0) kD
      · exact LQ.lit (z:=0) kD
theorem Dk {h:Hp}{A D:Option Addr}{c d:Nat}{q:Rat}(h1:(lim (aa q.num)).length≤c)(h2:(lim q.den).length≤d)(h3:SlO 1 ct 0 h A (lim (aa q.num)))(h4:SlO 1 ct 0 h D (lim q.den)):RQ h (DR ((ai q.num,.slice A (lim (aa q.num)).length c,.slice D (lim q.den).length d):RT)) q:=⟨_,_,_,_,rfl,h1,h2,h3,h4⟩
theorem Fd (A:Option Addr)(cap:Nat)(zs:List Int)(n:Nat)(hn:n≤1000000)(hl:zs.length≤9223372036854775807)(hz:i7 zs)(w:World)(h:Hp)(g:G w h)(hA:Si A zs h):CR 29 #[.slice A zs.length cap,nV n] w h (fun v h1=>∃ A c,∃ ts:List RT,v=.slice A ts.length c∧ts.length≤c∧Sr A ts h1∧RTs h1 ts (bR zs n)):=by
 have hs:=((sS g).aS hA);refine go Tryz.func29 [(0,qS A zs.length cap),(1,nV n)] rfl (ab hs [.v 4 (sZ)] (aJ (lL hs [.v 5 (sZ)] (ae (ab hs [.v 6 (iV 0)] (bc ?_))))));replace hs:=hs.nil 28 3;refine bJ [(0,qS A zs.length cap),(1,nV n),(4,sZ),(6,iV 0),(5,sZ)] ?_;replace hs:=hs.aT (RTs.nil);refine CG.loop (fun μ_ Γ w_=>∃ (k:Nat) (sA:Option Addr) (sc:Nat) (ts:List RT) (h_:Hp),μ_=n-k∧Γ=[(0,qS A zs.length cap),(1,nV n),(4,sZ),(6,nV k),(5,qS sA ((ts).length) sc)]∧SS w h w_ h_ [] [⟨28,3,sA,sc,(ts).length,(ts).flatMap Bf⟩] [Rt ts (bR zs k),Si A zs]∧k≤n) _ ⟨0,none,0,[],h,rfl,rfl,hs.to _ _,Nat.zero_le _⟩ ?_;rintro _ _ w1 ⟨k,sA,sc,ts,h2,hm3,rfl,hs,hk⟩;have hlT:=(hs.f.1).len;rw[jX] at hlT
 refine cQ (ab hs [.m 7 6,.m 8 1] ?_);cases hb4:(decide ((k:Int)<(n:Int)))
 ·
  have phb4:=oF hb4;refine lB 9 hb4 (af (CG.exit ?_))
  show CG _ _ _ _ _ _ _ _
  refine ab hs [.m 28 5,.m 4 28] (lN (kX ?_));have hkq:k=n:=by omega
  subst hkq;obtain ⟨h5,hs,hc6⟩:=hs.pubr 0 (A:=sA) (c:=sc) (l:=ts) (f:=Bf) (ty:=28) (sz:=3) Bj (fun _=>rfl);exact hs.ret [] (qS sA ((ts).length) sc) (⟨_,_,ts,rfl,hc6,hs.f.1,hs.f.2.1⟩)
 have phb4:=oT hb4;refine lB 9 hb4 (am (cK (cQ (kZ (ab hs [.m 12 6,.m 13 0,.v 14 (nV zs.length)] ?_)))));cases hb8:(decide ((k:Int)<(zs.length:Int)))
 ·
  have phb8:=oF hb8;refine lB 15 hb8 (af (kQ (lL hs [.m 24 5] (lC 25 hs (ES 0 oM oM _ _ hs.g) ?_))));rintro _ _ _ hs ⟨A9,za,zb,zc,rfl,zi,zj,zk,zl⟩;replace hs:=hs.aP zk zl;refine lR 26 28 1 (x8 ((0:Int):Rat) A9 za zb zc) hs (fun zq _ _ hs=>lY 27 0 28 3 sc sA ts Bf ((ai ((0:Int):Rat).num,qS A9 ((lim (aa ((0:Int):Rat).num)).length) za,qS zb ((lim ((0:Int):Rat).den).length) zc):RT) 56 zq (.agg #[qF,sZ,sZ]) hs hs.f.1 (fun zr zt _ zu hs=>lL hs [.m 5 27] (lN (kQ (lL hs [.m 10 6] (bu 11 ((k:Nat)+1) (k+1) ?_))))));refine lL hs [.m 6 11] (lD ?_);intro a_ ka;replace hs:=(hs.tl.tl.tl.tl.add (K:=Rt (ts++[((ai ((0:Int):Rat).num,qS A9 ((lim (aa ((0:Int):Rat).num)).length) za,qS zb ((lim ((0:Int):Rat).den).length) zc):RT)]) (bR zs (k+1))) (kI ((if_neg oM).trans (show (0:Rat)=((0:Int):Rat) from rfl)) (RTs.snoc hs.f.r.2.1 (Dk zi zj hs.f.r.1 hs.f.2.1))));refine ⟨_,_,?_,⟨k+1,zr,zt,ts++[((ai ((0:Int):Rat).num,qS A9 ((lim (aa ((0:Int):Rat).num)).length) za,qS zb ((lim ((0:Int):Rat).den).length) zc):RT)],zu,rfl,rfl,hs.to _ _,oM⟩,ka.to _ kR⟩
  omega
 have phb8:=oT hb8;refine lB 15 hb8 (am (kQ (lL hs [.m 16 5,.m 17 0,.m 18 6] (lX 19 A zs.length cap 1 (k:Nat) k ((hs.f.2.1).ok oM) ?_))));refine lH 20 (iV (zs.getD k 0)) hs ((hs.f.2.1).el k oM) (lC 21 hs (hR (zs.getD k 0) (hz k).1 (hz k).2 _ _ hs.g) ?_);rintro _ _ _ hs ⟨zd,ze,zf,zg,rfl,zm,zn,zo,zp⟩;replace hs:=hs.aP zo zp;refine lR 22 28 1 (x8 (cI (zs.getD k 0)) zd ze zf zg) hs (fun zv _ _ hs=>lY 23 0 28 3 sc sA ts Bf ((ai (cI (zs.getD k 0)).num,qS zd ((lim (aa (cI (zs.getD k 0)).num)).length) ze,qS zf ((lim (cI (zs.getD k 0)).den).length) zg):RT) 56 zv (.agg #[qF,sZ,sZ]) hs hs.f.1 (fun zw zx _ zA hs=>lL hs [.m 5 23] (lN (kQ (lL hs [.m 10 6] (bu 11 ((k:Nat)+1) (k+1) ?_))))));refine lL hs [.m 6 11] (lD ?_);intro a_ ka;replace hs:=(hs.tl.tl.tl.tl.aT (kI (if_pos oM) (RTs.snoc hs.f.r.2.1 (Dk zm zn hs.f.r.1 hs.f.2.1))));refine ⟨_,_,?_,⟨k+1,zw,zx,ts++[((ai (cI (zs.getD k 0)).num,qS zd ((lim (aa (cI (zs.getD k 0)).num)).length) ze,qS zf ((lim (cI (zs.getD k 0)).den).length) zg):RT)],zA,rfl,rfl,hs.to _ _,oM⟩,ka.to _ kR⟩
 omega
def maxR (a b:Rat):Rat:=if a<b then b else a
theorem LQ.maxR {k:Nat}{a b:Rat}(ha:LQ k a)(hb:LQ k b):LQ k (maxR a b):=by unfold Go.Proofs.YtghfcfnkglnchaaGreatDoor.maxR;split;exact hb;exact ha
theorem DT (a:Rat)(ha:LQ 100000000 a)(w:World)(h:Hp)(g:G w h):CV 105 #[qv a] w h (qv (eF a)):=by
 have hs:=sS g;refine go Tryz.func105 [(0,qv a)] rfl (aA (lA 1 43 (qc a) hs (fun b1 w2 h3 hs=>lA 2 43 ([qF,uV 0,eS,uV 0,eS]) hs (fun b4 w5 h6 hs=>ae (cR 7 [] mixed hs ar ?_)))));exact eV 0 3 (pB b1) (eO 1 4 [(1,0,3)] (iv a.num) hs (eV 4 7 (qP b1 3) (eO 5 8 [(1,3,2)] (nv (qd a)) hs (aq 2 5 hs (fun _ _ hs=>qi a.num _ _ hs.g) (fun w7 h8 hs=>aq 3 6 hs (fun _ _ hs=>dr (aa a.num) _ _ hs.g) (fun w9 _ hs=>eV 6 9 (.agg #[.bool (ai (((aa a.num):Nat):Int)),uV (lo (aa (((aa a.num):Nat):Int))),.string (hi (aa (((aa a.num):Nat):Int))),uV (lo (qd a)),.string (hi (qd a))]) (cg hs (fun _ _ hs=>tP 7 0 0 ([.bool (ai (((aa a.num):Nat):Int)),uV (lo (aa (((aa a.num):Nat):Int))),.string (hi (aa (((aa a.num):Nat):Int))),uV (lo (qd a)),.string (hi (qd a))]) hs (fun _ hs=>tN (kX (hs.ret [(0,0,5)] (.agg #[.bool (ai (((aa a.num):Nat):Int)),uV (lo (aa (((aa a.num):Nat):Int))),.string (hi (aa (((aa a.num):Nat):Int))),uV (lo (qd a)),.string (hi (qd a))]) (fT (jK a) (by unfold qd;rw[np])))))))))))))
structure Lay where
  k:Int
  W:List (List Rat)
  B:List Rat
def gl:Lay:=⟨0,[],[]⟩
abbrev LV:=Int × Value × Value
def CH:LV:=(0,undef,undef)
structure NetL (h:Hp) (ts:List LV) (ls:List Lay):Prop where
  len:ts.length=ls.length
  at_:∀ i,i<ls.length→(ts.getD i CH).1=(ls.getD i gl).k∧(∃ A c,∃ us:List Value,(ts.getD i CH).2.1=.slice A us.length c∧us.length≤c∧SlO 1 vc undef h A us∧QVs h us (ls.getD i gl).W)∧E4 5 qc 0 h (ts.getD i CH).2.2 (ls.getD i gl).B
abbrev Nn (t:List LV)(l:List Lay):Hp→Prop:=fun h_=>NetL h_ t l
structure RNetL (h:Hp) (ts:List LV) (ls:List Lay):Prop where
  len:ts.length=ls.length
  at_:∀ i,i<ls.length→(ts.getD i CH).1=(ls.getD i gl).k∧(∃ A c,∃ us:List Value,(ts.getD i CH).2.1=.slice A us.length c∧us.length≤c∧SlO 1 vc undef h A us∧RVs h us (ls.getD i gl).W) ∧
    (∃ A c,∃ rs:List RT,(ts.getD i CH).2.2=.slice A rs.length c∧rs.length≤c∧SlO 3 Bf Bj h A rs∧RTs h rs (ls.getD i gl).B)
abbrev Rn (t:List LV)(l:List Lay):Hp→Prop:=fun h_=>RNetL h_ t l
def te (l:List Rat):Prop:=∀ q∈l,∃ z,q=BD z
structure LayMk (L:Lay) (kq:Nat) (r c:Nat):Prop where
  k:L.k=(kq:Int)
  rows:L.W.length=r
  row:∀ q∈L.W,q.length=c∧te q
  bl:L.B.length=r
  bs:te L.B
theorem uw (A:Option Addr)(cap:Nat)(zs:List Int)(hl:zs.length≤9223372036854775807)(hz:i7 zs)(rbk at_:Nat)(ha:at_≤zs.length)(w:World)(h:Hp)(g:G w h)(ho:Own w rbk 67 [.slice A zs.length cap,nV at_])(hj:h[rbk]?=some junk)(hA:Si A zs h):Calls Tryz.prog 38 #[pB rbk] w (dL rbk w h fun v w' _=>∃ (z:Int) (at2:Nat),v=iV z∧at2≤zs.length∧(-9223372036854775808≤z∧z≤9223372036854775807)∧Own w' rbk 67 [.slice A zs.length cap,nV at2]):=by
 have hmo:UpM [rbk] w h w h:=UpM.refl g;obtain ⟨wz,hz0_,hs⟩:=SS.at_ g ho hj;replace hs:=hs.aS hA;refine go Tryz.func38 [(0,pB rbk)] rfl (ab hs [.v 2 (iV 0)] (ae (cQ (cR 10 [] mixed hs ar ?_))));refine eV 0 3 (pB rbk) (eV 1 4 (pB rbk) (eV 2 5 (qP rbk 1) (eO 3 6 [(0,1,1)] (nV at_) hs (eV 4 7 (pB rbk) (eV 5 8 (pB rbk) (eV 6 9 (pB rbk) (eO 7 10 [(0,0,1)] (qS A zs.length cap) hs (eV 8 11 (nV zs.length) ?_))))))));cases hb1:(decide ((zs.length:Int)≤(at_:Int)))
 ·
  have phb1:=oF hb1;refine eB 9 12 hb1 (gQ hs (fun w2 h3 u4 hs=>?_));replace hmo:=hmo.trans (u4.m _);refine tN (cF (cK (ab hs [.m 13 0,.v 14 (pB rbk),.v 15 (qP rbk 1),.o 16 (nV at_) 0 1 1] (bu 17 ((at_:Nat)+1) (at_+1) ?_))));refine lL hs [.v 18 (pB rbk),.v 19 (qP rbk 1)] (hJ 0 1 ([nV (at_+1)]) hs (fun w5 pu hs=>?_));replace hmo:=hmo.put pu (List.mem_singleton.2 rfl) hs.g;refine ae (cR 11 [] mixed hs ar ?_);refine eV 0 20 (pB rbk) (eV 1 21 (pB rbk) (eV 2 22 (pB rbk) (eO 3 23 [(0,0,1)] (qS A zs.length cap) hs (eV 4 24 (pB rbk) (eV 5 25 (pB rbk) (eV 6 26 (qP rbk 1) (eO 7 27 [(0,1,1)] (nV (at_+1)) hs (j7 8 28 ((at_+1:Nat)-1) ((at_+1)-1) (eX 9 29 A zs.length cap 1 ((at_+1)-1:Nat) ((at_+1)-1) ((hs.f.1).ok oM) (eH 10 30 (iV (zs.getD ((at_+1)-1) 0)) hs ((hs.f.1).el ((at_+1)-1) oM) (gQ hs (fun w6 h7 u8 hs=>?_))))))))))));replace hmo:=hmo.trans (u8.m _);exact tV 11 2 (iV (zs.getD ((at_+1)-1) 0)) (tN (kX (hs.retM hmo [] (iV (zs.getD ((at_+1)-1) 0)) ⟨zs.getD ((at_+1)-1) 0,(at_+1),rfl,by omega,hz _,hs.own 0⟩)))
 have phb1:=oT hb1;refine eB 9 12 hb1 (gQ hs (fun w9 _ u11 hs=>?_));replace hmo:=hmo.trans (u11.m _);exact tN (cf (ab hs [.v 2 (iV 0)] (lN (kX (hs.retM hmo [] (iV 0) ⟨0,at_,rfl,by omega,⟨by decide,by decide⟩,hs.own 0⟩)))))
structure LayFit (L:Lay):Prop where
  rl:L.W.length≤1000000
  rls:∀ i,i<L.W.length→(L.W.getD i []).length≤1000000
  rf:∀ i,i<L.W.length→∀ j,j<(L.W.getD i []).length→LQ 100000000 ((L.W.getD i []).getD j 0)
  bl:L.B.length≤1000000
  bf:∀ i,i<L.B.length→LQ 100000000 (L.B.getD i 0)
structure Stp where
  op:Int
  a:Int
  b:Int
  n:Int
  q:Rat
abbrev sX (p:Stp):Value:=.agg #[iV p.op,iV p.a,iV p.b,iV p.n,.bool (ai p.q.num),uV (lo (aa p.q.num)),.string (hi (aa p.q.num)),uV (lo (qd p.q)),.string (hi (qd p.q))]
abbrev sC (p:Stp):List Value:=[iV p.op,iV p.a,iV p.b,iV p.n,.bool (ai p.q.num),uV (lo (aa p.q.num)),.string (hi (aa p.q.num)),uV (lo (qd p.q)),.string (hi (qd p.q))]
abbrev sW (o a b n:Int)(q:Rat):Value:=.agg #[iV o,iV a,iV b,iV n,.bool (ai q.num),uV (lo (aa q.num)),.string (hi (aa q.num)),uV (lo (qd q)),.string (hi (qd q))]
abbrev sG (o a b n:Int)(q:Rat):List Value:=[iV o,iV a,iV b,iV n,.bool (ai q.num),uV (lo (aa q.num)),.string (hi (aa q.num)),uV (lo (qd q)),.string (hi (qd q))]
def dU:Stp:=⟨0,0,0,0,0⟩
abbrev gP (l:List Stp)(k:Nat):Stp:=l.getD k dU
def eg (op:Int):Int :=
  if op=1∨op=2 then 0 else if op=7∨op=8∨op=9∨op=10∨op=11 then 1
  else if op=3∨op=4∨op=5∨op=6∨op=12∨op=13 then 2 else -1
theorem aG (op:Int):(eg op=0∧(op=1∨op=2))∨(eg op=1∧(op=7∨op=8∨op=9∨op=10∨op=11))∨(eg op=2∧(op=3∨op=4∨op=5∨op=6∨op=12∨op=13))∨(eg op = -1∧(op<1∨13<op)):=by
 unfold eg;split
 ·exact .inl ⟨rfl,by assumption⟩
 ·split
  ·exact .inr (.inl ⟨rfl,by assumption⟩)
  ·split
   ·exact .inr (.inr (.inl ⟨rfl,by assumption⟩))
   ·exact .inr (.inr (.inr ⟨rfl,by omega⟩))
def lu (i:Nat)(tt:Int)(used:Prop):Prop:=(used→0≤tt∧tt<i)∧(¬used→tt=0)
def gB (inp:Int)(i:Nat)(s:Stp):Prop :=
  0≤eg s.op∧lu i s.a (0<eg s.op)∧lu i s.b (1<eg s.op)∧(s.op≠1→s.q.num=0) ∧
  (s.op=2→0≤s.n∧s.n<inp)∧(s.op=8 → -12≤s.n∧s.n≤12)∧(s.op≠2→s.op≠8→s.n=0)
instance (i:Nat) (tt:Int) (u:Prop) [Decidable u]:Decidable (lu i tt u):=by unfold lu;infer_instance
instance (inp:Int) (i:Nat) (s:Stp):Decidable (gB inp i s):=by unfold gB;infer_instance
def sl (n:Nat)(os:List Int):Prop:=∀ i,i<os.length→0≤os.getD i 0∧os.getD i 0<n
instance (n:Nat) (os:List Int):Decidable (sl n os):=by unfold sl;infer_instance
structure RSt where
  op:Int
  a:Int
  b:Int
  n:Int
  t:RT
def E3:RSt:=⟨0,0,0,0,Bj⟩
structure OSt where
  op:Int
  a:Int
  b:Int
  n:Int
  q:Rat
  has:Bool
def BI:OSt:=⟨0,0,0,0,0,false⟩
def Fu (o:OSt):Nat:=if o.has then o.q.den else 0
def OSt.stp (o:OSt):Stp:=⟨o.op,o.a,o.b,o.n,o.q⟩
abbrev gO (s:List OSt)(k:Nat):OSt:=s.getD k BI
abbrev mO (s:List OSt):List Stp:=s.map OSt.stp
structure RS1 (h:Hp) (t:RSt) (o:OSt):Prop where
  op:t.op=o.op
  a:t.a=o.a
  b:t.b=o.b
  n:t.n=o.n
  q:RP h (DR t.t) o.q.num (Fu o)
  z:o.has=false→o.q=0
structure RSs (h:Hp) (ts:List RSt) (os:List OSt):Prop where
  len:ts.length=os.length
  at_:∀ i,i<os.length→RS1 h (ts.getD i E3) (os.getD i BI)
structure OSm (o:OSt):Prop where
  op : -1000≤o.op∧o.op≤1000
  a : -1000≤o.a∧o.a≤1000
  b : -1000≤o.b∧o.b≤1000
  n : -1000≤o.n∧o.n≤1000
  q:LQ 1 o.q
def EW (os:List OSt):Prop:=∀ i,i<os.length→OSm (os.getD i BI)
section
variable {inp:Int} {i:Nat} {s:Stp} (h:gB inp i s)
include h
end
structure LayLen (L:Lay):Prop where
  rl:L.W.length≤1000000
  rls:∀ i,i<L.W.length→(L.W.getD i []).length≤1000000
  bl:L.B.length≤1000000
structure Mat (W:List (List Rat)) (r c:Nat):Prop where
  rows:W.length=r
  rpos:0<r
  cpos:0<c
  row:∀ i,i<r→(W.getD i []).length=c
structure Net3 (ls:List Lay) (d:Nat→Nat):Prop where
  len:1≤ls.length∧ls.length≤4
  first:d 0≤20
  lay:∀ i,i<ls.length→Mat (ls.getD i gl).W (d (i+1)) (d i)∧(ls.getD i gl).B.length=d (i+1)∧d (i+1)≤12∧((ls.getD i gl).k=1∨(ls.getD i gl).k=2∨(ls.getD i gl).k=3)
theorem mi (u:Rat):0<((1:Int):Rat)+eF u:=by
 have h:(0:Rat)≤eF u:=by rw[←Rat.num_nonneg,jK];omega
 have h1:(0:Rat)<((1:Int):Rat):=by decide
 grind
theorem nO (u:Rat):(((1:Int):Rat)+eF u).num≠0:=by
 have:=mi u;intro e;have e2:((1:Int):Rat)+eF u=0:=by rw[←Rat.num_eq_zero];exact e
 rw[e2] at this;exact absurd this kD
def FG (k:Int)(u:Rat):Rat:=if k=2 then maxR u 0 else if k=3 then u/(((1:Int):Rat)+eF u) else u
def Ex (L:Lay)(x:List Rat):List Rat:=(List.range L.W.length).map fun i=>FG L.k (Bn (L.W.getD i []) x x.length+L.B.getD i 0)
def vw (ls:List Lay)(xs:List Rat):Nat→List Rat
  | 0=>xs
  | k+1=>Ex (ls.getD k gl) (vw ls xs k)
abbrev gD (ls:List Lay)(xs:List Rat)(k r:Nat):Rat:=Bn ((ls.getD k gl).W.getD r []) (vw ls xs k) (vw ls xs k).length
abbrev gS (ls:List Lay)(xs:List Rat)(k r:Nat):Rat:=gD ls xs k r+((ls.getD k gl).B).getD r 0
structure NetB (ls:List Lay) (xs:List Rat):Prop where
  w:∀ k i j,LQ 1000000 (((ls.getD k gl).W.getD i []).getD j 0)
  b:∀ k i,LQ 1000000 ((ls.getD k gl).B.getD i 0)
  x:∀ k,k≤ls.length→∀ j,LQ 1000000 ((vw ls xs k).getD j 0)
structure LaySz (L:Lay):Prop where
  rl:L.W.length≤8
  rls:∀ i,(L.W.getD i []).length≤8
  bl:L.B.length≤8
  w:∀ i j,LQ 1 ((L.W.getD i []).getD j 0)
  b:∀ i,LQ 1 (L.B.getD i 0)
  b4:L.B.length≤4
  w4:(L.W.getD 0 []).length≤4
theorem qz {k:Nat}(h:1≤k):LQ k 0:=(LQ.lit (z:=0) kD).mono h
theorem pz (a:Rat):di a a=0:=by unfold di dh;rw[if_neg oM,if_neg oM]
section fut
variable {P:Program} {n:Nat} {N R:Po} {X:Nat→Po} {ops:Array Oper} {k0 K:Nat} {L:Array Bool} {Γ:bG} {w:World} {h:Hp} {w0:World} {h0:Hp} {B:List Bx} {Rs:List Rw} {F:List (Hp→Prop)}
end fut
theorem nK {α:Type}{l:List α}{n i:Nat}{d:α}:(l.drop n).getD i d=l.getD (n+i) d:=by simp[List.getD_eq_getElem?_getD]
structure LayS4 (L:Lay):Prop where
  rl:L.W.length≤4
  rls:∀ i,(L.W.getD i []).length≤4
  bl:L.B.length≤4
  w:∀ i j,LQ 1 ((L.W.getD i []).getD j 0)
  b:∀ i,LQ 1 (L.B.getD i 0)
section fla
variable {P:Program} {n:Nat} {N R:Po} {X:Nat→Po} {ops:Array Oper} {k:Nat} {Γ:bG} {w:World} {h:Hp} {w0:World} {h0:Hp} {B:List Bx} {Rs:List Rw} {F:List (Hp→Prop)}
end fla
section prt
variable {M:Ms} {P:Program} {n:Nat} {N R:Po} {X:Nat→Po} {ops:Array Oper} {k k0:Nat} {hr:Hp} {AL:List Al} {L:Array Bool} {Γ:bG} {w:World} {h:Hp}
end prt
def dw (a:Rat):Nat→Rat
  | 0=>((1:Int):Rat)
  | k+1=>dw a k*a
theorem oP {a:Rat}(h:a≠0):∀ k,dw a k≠0
 | 0=>by show ((1:Int):Rat)≠0;decide
 | k+1=>by show dw a k*a≠0;have:=oP h k;grind
theorem qt {k:Nat}(h:0<k):dw 0 k=0:=by
 obtain ⟨j,rfl⟩:∃ j,k=j+1:=⟨k-1,by omega⟩
 show dw 0 j*0=0;rw[Rat.mul_zero]
def iP (a:Rat)(n:Int):Rat:=if 0≤n then dw a n.natAbs else ((1:Int):Rat)/dw a n.natAbs
def oB (a b:Rat):Rat:=if b<a then b else a
def CO (op n:Int)(q a b:Rat):Rat :=
  if op=1 then q else if op=3 then a+b else if op=4 then a-b else if op=5 then a*b else if op=6 then a/b else if op=7 then -a
  else if op=8 then iP a n else if op=9 then eF a else if op=10 then maxR a 0 else if op=11 then a/(eF a+((1:Int):Rat)) else if op=12 then maxR a b else oB a b
def n5 (op n:Int)(a b:Rat):Prop:=(op=6→b≠0)∧(op=8→n<0→a≠0)
instance (op n:Int) (a b:Rat):Decidable (n5 op n a b):=by unfold n5;infer_instance
def Fi (op:Int)(a b:Rat):Prop:=(op=9∨op=10)∧a=0∨(op=12∨op=13)∧a=b
instance (op:Int) (a b:Rat):Decidable (Fi op a b):=by unfold Fi;infer_instance
theorem ru {a:Rat}(h:a≠0):a.num≠0:=fun e=>h (by rw[←Rat.num_eq_zero];exact e)
theorem g6 {a:Rat}{K:Nat}(h:LQ K a):∀ k,LQ (k*K+1) (dw a k)
 | 0=>LQ.mono (k:=1) (LQ.lit (z:=1) kD) oM
 | k+1=>((g6 h k).mul h).mono (by rw[Nat.add_mul];omega)
theorem Ap (a b:Rat)(hb:b=0)(w:World)(h:Hp)(g:G w h):CV 102 #[qv a,qv b] w h (.tuple #[qv 0,.bool false]):=by
 subst hb;exact C3 a (qz oM) w h g
theorem oa (u:Rat):(eF u+((1:Int):Rat)).num≠0:=by rw[Rat.add_comm];exact nO u
theorem vv {a b:Rat}:di a b=0↔a=b:=by
 constructor
 ·intro h
  have h1:¬a<b:=fun x=>by have:=jq.2 x;omega
  have h2:¬b<a:=fun x=>by have:=jh.2 x;omega
  grind
 ·intro h;subst h
  have h1:¬di a a<0:=fun x=>by have:=jq.1 x;grind
  have h2:¬di a a>0:=fun x=>by have:=jh.1 x;grind
  omega
theorem ED (a b:Rat)(ha:LQ 100000000 a)(hb:LQ 100000000 b)(w:World)(h:Hp)(g:G w h):CV 108 #[qv a,qv b] w h (qv (oB a b)):=by
 have hs:=sS g;refine go Tryz.func108 [(0,qv a),(1,qv b)] rfl (aA (lA 2 43 (qc a) hs (fun b1 w2 h3 hs=>lA 3 43 (qc b) hs (fun b4 w5 h6 hs=>lA 4 43 ([qF,uV 0,eS,uV 0,eS]) hs (fun b7 w8 h9 hs=>ae (ab hs [.o 5 (qv b) 1 0 5,.o 6 (qv a) 2 0 5] (ah 7 hs (wu b a (LQ.mono hb oM) (LQ.mono ha oM) _ _ hs.g) (fun _ _ hs=>?_))))))));cases za:(decide ((di b a:Int)<(0:Int)))
 ·
  have zb:=oF za;exact lB 8 za (af (cK (ab hs [.o 10 (qv a) 2 0 5] (lP 0 0 (qc a) hs (fun _ hs=>ac hs [(0,0,5)] (qv a) (by unfold oB;rw[if_neg (fun h_=>by have:=jq.2 h_;omega)]))))))
 have zb:=oT za;exact lB 8 za (am (ab hs [.o 9 (qv b) 1 0 5] (lP 0 0 (qc b) hs (fun _ hs=>ac hs [(0,0,5)] (qv b) (by unfold oB;rw[if_pos (jq.1 oM)])))))
def kA (op n:Int)(q a b:Rat):Rat:=if n5 op n a b then CO op n q a b else 0
theorem ti {α:Type}{l:List α}{i:Nat}{d:α}(h:i<l.length):l.getD i d∈l:=by
 rw[List.getD_eq_getElem?_getD,List.getElem?_eq_getElem h];exact List.getElem_mem h
theorem qM {α:Type}{l:List α}{i:Nat}{d:α}(h:l.length≤i):l.getD i d=d:=by
 rw[List.getD_eq_getElem?_getD,List.getElem?_eq_none h];rfl
def DO (s:ByteArray):List Value:=[.string s]
inductive Tm where
  | mk (op n:Int) (q:Rat) (s:ByteArray) (ks:List Tm)
def Tm.op:Tm→Int|.mk op _ _ _ _=>op
def Tm.n:Tm→Int|.mk _ n _ _ _=>n
def Tm.q:Tm→Rat|.mk _ _ q _ _=>q
def Tm.s:Tm→ByteArray|.mk _ _ _ s _=>s
def Tm.ks:Tm→List Tm|.mk _ _ _ _ ks=>ks
def bE:Tm:=.mk 0 0 0 ⟨#[]⟩ []
structure PTm where
  op:Int
  n:Int
  q:Rat
  s:ByteArray
  A:Option Addr
  m:Nat
  c:Nat
abbrev pX (p:PTm):Value:=.agg #[iV p.op,iV p.n,.bool (ai p.q.num),uV (lo (aa p.q.num)),.string (hi (aa p.q.num)),uV (lo (qd p.q)),.string (hi (qd p.q)),.string p.s,.slice p.A p.m p.c]
abbrev pC (p:PTm):List Value:=[iV p.op,iV p.n,.bool (ai p.q.num),uV (lo (aa p.q.num)),.string (hi (aa p.q.num)),uV (lo (qd p.q)),.string (hi (qd p.q)),.string p.s,.slice p.A p.m p.c]
abbrev pW (o n:Int)(q:Rat)(s:ByteArray)(A:Option Addr)(m c:Nat):Value:=.agg #[iV o,iV n,.bool (ai q.num),uV (lo (aa q.num)),.string (hi (aa q.num)),uV (lo (qd q)),.string (hi (qd q)),.string s,.slice A m c]
abbrev pG (o n:Int)(q:Rat)(s:ByteArray)(A:Option Addr)(m c:Nat):List Value:=[iV o,iV n,.bool (ai q.num),uV (lo (aa q.num)),.string (hi (aa q.num)),uV (lo (qd q)),.string (hi (qd q)),.string s,.slice A m c]
def aE:PTm:=⟨0,0,0,⟨#[]⟩,none,0,0⟩
def cj (p:PTm):List Value:=[.int .i64 p.op,.int .i64 p.n,.bool (ai p.q.num),.int .u64 (lo (aa p.q.num)),.string (hi (aa p.q.num)),.int .u64 (lo (qd p.q)),.string (hi (qd p.q)),.string p.s,.slice p.A p.m p.c]
def dC (p:PTm):Value:=.agg #[.int .i64 p.op,.int .i64 p.n,.bool (ai p.q.num),.int .u64 (lo (aa p.q.num)),.string (hi (aa p.q.num)),.int .u64 (lo (qd p.q)),.string (hi (qd p.q)),.string p.s,.slice p.A p.m p.c]
def TmH:Nat→Hp→PTm→Tm→Prop
  | 0,_,_,_=>False
  | d+1,h,p,t=>p.op=t.op∧p.n=t.n∧p.q=t.q∧p.s=t.s∧p.m=t.ks.length∧p.m≤p.c∧∃ ps:List PTm,ps.length=t.ks.length∧SlO 9 cj aE h p.A ps∧∀ i,i<t.ks.length→TmH d h (ps.getD i aE) (t.ks.getD i bE)
theorem TmH.gw:∀ {d:Nat} {h h':Hp} {p:PTm} {t:Tm},TmH d h p t→Gw h h'→TmH d h' p t
 | 0,_,_,_,_,x,_=>x
 | d+1,_,_,_,_,⟨h1,h2,h3,h4,h5,h6,ps,h7,h8,h9⟩,u=>⟨h1,h2,h3,h4,h5,h6,ps,h7,h8.gw u,fun i hi=>TmH.gw (h9 i hi) u⟩
theorem TmH.mono {h:Hp}:∀ {d e:Nat} {p:PTm} {t:Tm},TmH d h p t→d≤e→TmH e h p t
 | d+1,e+1,_,_,⟨h1,h2,h3,h4,h5,h6,ps,h7,h8,h9⟩,u=>⟨h1,h2,h3,h4,h5,h6,ps,h7,h8,fun i hi=>TmH.mono (h9 i hi) oM⟩
structure RTm where
  op:Int
  n:Int
  neg:Bool
  zA:Option Addr
  zn:Nat
  zc:Nat
  dA:Option Addr
  dn:Nat
  dc:Nat
  s:ByteArray
  A:Option Addr
  m:Nat
  c:Nat
def RTm.t (r:RTm):RT:=(r.neg,.slice r.zA r.zn r.zc,.slice r.dA r.dn r.dc)
def aw:RTm:=⟨0,0,false,none,0,0,none,0,0,⟨#[]⟩,none,0,0⟩
def dt (r:RTm):List Value:=[.int .i64 r.op,.int .i64 r.n,.bool r.neg,.slice r.zA r.zn r.zc,.slice r.dA r.dn r.dc,.string r.s,.slice r.A r.m r.c]
def dB (r:RTm):Value:=.agg #[.int .i64 r.op,.int .i64 r.n,.bool r.neg,.slice r.zA r.zn r.zc,.slice r.dA r.dn r.dc,.string r.s,.slice r.A r.m r.c]
def RZ (h:Hp)(t:RT)(q:Rat):Prop:=∃ has:Bool,RP h (DR t) q.num (if has then q.den else 0)∧(has=false→q=0)
theorem RZ.gw {h h':Hp}{t:RT}{q:Rat}(x:RZ h t q)(u:Gw h h'):RZ h' t q:=by
 obtain ⟨hs,h1,h2⟩:=x;exact ⟨hs,h1.gw u,h2⟩
def RmH:Nat→Hp→RTm→Tm→Prop
  | 0,_,_,_=>False
  | d+1,h,r,t=>r.op=t.op∧r.n=t.n∧RZ h r.t t.q∧r.s=t.s∧r.m=t.ks.length∧r.m≤r.c∧∃ rs:List RTm,rs.length=t.ks.length∧SlO 7 dt aw h r.A rs∧∀ i,i<t.ks.length→RmH d h (rs.getD i aw) (t.ks.getD i bE)
theorem Cm {h:Hp}{b:Bool}{zA dA:Option Addr}{zn zc dn dc:Nat}{q:Rat}(x:RZ h (b,.slice zA zn zc,.slice dA dn dc) q)(p:0<dn):RP h (.agg #[.bool b,.slice zA zn zc,.slice dA dn dc]) q.num q.den:=by
 obtain ⟨hs,h1,h2⟩:=x;cases hs
 ·obtain ⟨A,c,D,d,e,hc,hd,hA,hD⟩:=h1
  injection e with e
  have e3:=congrArg (fun a:Array Value=>a.toList) e
  simp at e3
  have:dn=(lim 0).length:=e3.2.2.2.1;have h0:(lim 0).length=0:=by have:=@ck 0;omega
  omega
 ·exact h1
theorem Dt {h:Hp}{b:Bool}{zA dA:Option Addr}{zn zc dc:Nat}{q:Rat}(x:RZ h (b,.slice zA zn zc,.slice dA 0 dc) q):q=0:=by
 obtain ⟨hs,h1,h2⟩:=x;cases hs
 ·exact h2 rfl
 ·obtain ⟨A,c,D,d,e,hc,hd,hA,hD⟩:=h1
  injection e with e
  have e3:=congrArg (fun a:Array Value=>a.toList) e
  simp at e3
  have h3:0=(lim q.den).length:=e3.2.2.2.1;have h4:=(@ck q.den).2 q.den_pos
  omega
theorem RmH.gw:∀ {d:Nat} {h h':Hp} {r:RTm} {t:Tm},RmH d h r t→Gw h h'→RmH d h' r t
 | 0,_,_,_,_,x,_=>x
 | d+1,_,_,_,_,⟨h1,h2,h3,h4,h5,h6,ps,h7,h8,h9⟩,u=>⟨h1,h2,h3.gw u,h4,h5,h6,ps,h7,h8.gw u,fun i hi=>RmH.gw (h9 i hi) u⟩
structure Tms (d:Nat) (h:Hp) (ps:List PTm) (ts:List Tm):Prop where
  len:ps.length=ts.length
  at_:∀ i,i<ts.length→TmH d h (ps.getD i aE) (ts.getD i bE)
theorem Tms.gw {d:Nat}{h h':Hp}{ps:List PTm}{ts:List Tm}(x:Tms d h ps ts)(u:Gw h h'):Tms d h' ps ts:=⟨x.len,fun i hi=>(x.at_ i hi).gw u⟩
structure Rms (d:Nat) (h:Hp) (rs:List RTm) (ts:List Tm):Prop where
  len:rs.length=ts.length
  at_:∀ i,i<ts.length→RmH d h (rs.getD i aw) (ts.getD i bE)
theorem Rms.gw {d:Nat}{h h':Hp}{rs:List RTm}{ts:List Tm}(x:Rms d h rs ts)(u:Gw h h'):Rms d h' rs ts:=⟨x.len,fun i hi=>(x.at_ i hi).gw u⟩
theorem Rms.nil {d:Nat}{h:Hp}:Rms d h [] []:=⟨rfl,fun i hi=>by simp at hi⟩
theorem Rms.snoc {d:Nat}{h:Hp}{rs:List RTm}{ts:List Tm}{r:RTm}{t:Tm}(x:Rms d h rs ts)(y:RmH d h r t):Rms d h (rs++[r]) (ts++[t]):=by
 refine ⟨by simp[x.len],fun i hi=>?_⟩;rw[List.length_append,List.length_singleton] at hi
 rw[cp,cp,x.len]
 by_cases e:i<ts.length
 ·rw[if_pos e,if_pos e];exact x.at_ i e
 ·rw[if_neg e,if_neg e,if_pos oM,if_pos oM];exact y
theorem Tms.nil {d:Nat}{h:Hp}:Tms d h [] []:=⟨rfl,fun i hi=>by simp at hi⟩
theorem Tms.snoc {d:Nat}{h:Hp}{rs:List PTm}{ts:List Tm}{r:PTm}{t:Tm}(x:Tms d h rs ts)(y:TmH d h r t):Tms d h (rs++[r]) (ts++[t]):=by
 refine ⟨by simp[x.len],fun i hi=>?_⟩;rw[List.length_append,List.length_singleton] at hi
 rw[cp,cp,x.len]
 by_cases e:i<ts.length
 ·rw[if_pos e,if_pos e];exact x.at_ i e
 ·rw[if_neg e,if_neg e,if_pos oM,if_pos oM];exact y
theorem TmH.mk {d:Nat}{h:Hp}{op n:Int}{q:Rat}{s:ByteArray}{A:Option Addr}{c:Nat}{ps:List PTm}{ks:List Tm}(x:Tms d h ps ks)(hc:ps.length≤c)(hA:SlO 9 cj aE h A ps):TmH (d+1) h ⟨op,n,q,s,A,ps.length,c⟩ (.mk op n q s ks) :=
 ⟨rfl,rfl,rfl,rfl,x.len,hc,ps,x.len,hA,x.at_⟩
theorem RmH.mk {d:Nat}{h:Hp}{op n:Int}{b:Bool}{zA dA:Option Addr}{zn zc dn dc:Nat}{q:Rat}{s:ByteArray}{A:Option Addr}{c:Nat}{ps:List RTm}{ks:List Tm}(z:RZ h (b,.slice zA zn zc,.slice dA dn dc) q)(x:Rms d h ps ks)(hc:ps.length≤c)(hA:SlO 7 dt aw h A ps):RmH (d+1) h ⟨op,n,b,zA,zn,zc,dA,dn,dc,s,A,ps.length,c⟩ (.mk op n q s ks) :=
 ⟨rfl,rfl,z,rfl,x.len,hc,ps,x.len,hA,x.at_⟩
theorem TmH.open {d:Nat}{h:Hp}{p:PTm}{t:Tm}(x:TmH (d+1) h p t):∃ op n q s A c,∃ ps:List PTm,∃ ks:List Tm,p=⟨op,n,q,s,A,ps.length,c⟩∧t=.mk op n q s ks∧ps.length≤c∧SlO 9 cj aE h A ps∧Tms d h ps ks:=by
  obtain ⟨op,n,q,s,A,m,c⟩:=p;cases t with
  | mk o3 n2 q2 s2 ks =>
    obtain ⟨h1,h2,h3,h4,h5,h6,ps,h7,h8,h9⟩:=x;obtain rfl:op=o3:=h1;obtain rfl:n=n2:=h2;obtain rfl:q=q2:=h3;obtain rfl:s=s2:=h4;obtain rfl:m=ps.length:=(show m=ks.length from h5).trans h7.symm;exact ⟨op,n,q,s,A,c,ps,ks,rfl,rfl,h6,h8,h7,h9⟩
theorem RmH.mono {h:Hp}{d e:Nat}{p:RTm}{t:Tm}(x:RmH d h p t)(u:d≤e):RmH e h p t:=by
  induction d generalizing e p t with
  | zero=>exact x.elim
  | succ d ih =>
    cases e with
    | zero=>omega
    | succ e =>
      obtain ⟨h1,h2,h3,h4,h5,h6,ps,h7,h8,h9⟩:=x;exact ⟨h1,h2,h3,h4,h5,h6,ps,h7,h8,fun i hi=>ih (h9 i hi) oM⟩
theorem RmH.open {d:Nat}{h:Hp}{p:RTm}{t:Tm}(x:RmH (d+1) h p t):∃ op n b zA zn zc dA dn dc q s A c,∃ ps:List RTm,∃ ks:List Tm,p=⟨op,n,b,zA,zn,zc,dA,dn,dc,s,A,ps.length,c⟩∧t=.mk op n q s ks∧RZ h (b,.slice zA zn zc,.slice dA dn dc) q∧ps.length≤c∧SlO 7 dt aw h A ps∧Rms d h ps ks:=by
  obtain ⟨op,n,b,zA,zn,zc,dA,dn,dc,s,A,m,c⟩:=p;cases t with
  | mk o3 n2 q2 s2 ks =>
    obtain ⟨h1,h2,h3,h4,h5,h6,ps,h7,h8,h9⟩:=x;obtain rfl:op=o3:=h1;obtain rfl:n=n2:=h2;obtain rfl:s=s2:=h4;obtain rfl:m=ps.length:=(show m=ks.length from h5).trans h7.symm;exact ⟨op,n,b,zA,zn,zc,dA,dn,dc,q2,s,A,c,ps,ks,rfl,rfl,h3,h6,h8,h7,h9⟩
def e7 (f:Nat→Nat):Nat→Nat
  | 0=>0
  | k+1=>e7 f k+f k
def bP (n:Int):Nat:=if n.natAbs≤1 then 1 else n.natAbs
def bV:Nat→Tm→Nat
  | 0,_=>0
  | d+1,t=>if t.ks.length=0 then 1 else (if t.op=11 then 2 else if t.op=8 then bP t.n else 1)*e7 (fun i=>bV d (t.ks.getD i bE)) t.ks.length
def WfT (ok:ByteArray→Prop):Nat→Tm→Prop
  | 0,_=>False
  | d+1,t=>eg t.op=t.ks.length∧(t.op≠1→t.q=0)∧LQ 1 t.q∧(t.op=2→ok t.s)∧(t.op≠2→t.s=⟨#[]⟩)∧(t.op≠8→t.n=0) ∧ -12≤t.n∧t.n≤12∧∀ i,i<t.ks.length→WfT ok d (t.ks.getD i bE)
theorem WfT.mono {ok:ByteArray→Prop}:∀ {d e:Nat} {t:Tm},WfT ok d t→d≤e→WfT ok e t
 | d+1,e+1,_,⟨h1,h2,h3,h4,h5,h6,h7,h8,h9⟩,u=>⟨h1,h2,h3,h4,h5,h6,h7,h8,fun i hi=>WfT.mono (h9 i hi) oM⟩
def SmT (sm:ByteArray→Prop):Nat→Tm→Prop
  | 0,_=>False
  | d+1,t=>t.ks.length≤3∧(-1000≤t.op∧t.op≤1000)∧(-1000≤t.n∧t.n≤1000)∧LQ 1 t.q∧sm t.s∧∀ i,i<t.ks.length→SmT sm d (t.ks.getD i bE)
theorem SmT.mono {sm:ByteArray→Prop}:∀ {d e:Nat} {t:Tm},SmT sm d t→d≤e→SmT sm e t
 | d+1,e+1,_,⟨h1,h2,h3,h4,h5,h6⟩,u=>⟨h1,h2,h3,h4,h5,fun i hi=>SmT.mono (h6 i hi) oM⟩
theorem WfT.sm {ok sm:ByteArray→Prop}(h:∀ s,ok s→sm s)(h0:sm ⟨#[]⟩):∀ {d:Nat} {t:Tm},WfT ok d t→SmT sm d t
  | d+1,t,⟨h1,h2,h3,h4,h5,h6,h7,h8,h9⟩=>by
    have hc:=aG t.op;refine ⟨by omega,⟨by omega,by omega⟩,⟨by omega,by omega⟩,h3,?_,fun i hi=>WfT.sm h h0 (h9 i hi)⟩
    by_cases e:t.op=2
    · exact h _ (h4 e)
    · rw[h5 e];exact h0
def EJ (isb:ByteArray→Bool)(op n:Int)(q:Rat)(s:ByteArray)(m:Nat):Prop:=eg op=m∧(op=1∨q.num=0)∧((op=2→isb s=true)∧(op≠2→s=⟨#[]⟩))∧((op=8∨n=0) ∧ -12≤n∧n≤12)
section
variable {isb:ByteArray→Bool} {d:Nat} {op n:Int} {q:Rat} {s:ByteArray} {ks:List Tm}
theorem wy (w:WfT (fun s=>isb s=true) (d+1) (.mk op n q s ks)):EJ isb op n q s ks.length:=by
 obtain ⟨h1,h2,h3,h4,h5,h6,h7,h8,h9⟩:=w;refine ⟨h1,?_,⟨h4,h5⟩,?_,h7,h8⟩
 ·by_cases e:op=1
  ·exact .inl e
  ·exact .inr (Rat.num_eq_zero.2 (h2 e))
 ·by_cases e:op=8
  ·exact .inl e
  ·exact .inr (h6 e)
theorem mU (h:¬EJ isb op n q s ks.length):∃ bb,Value.bool false=.bool bb∧(bb=true↔WfT (fun s=>isb s=true) (d+1) (.mk op n q s ks)):=⟨false,rfl,fun h_=>(by cases h_),fun w=>absurd (wy w) h⟩
theorem An {k:Nat}(hk:k<ks.length){bk:Bool}(hb:bk=false)(h:bk=true↔WfT (fun s=>isb s=true) d (ks.getD k bE)):∃ bb,Value.bool false=.bool bb∧(bb=true↔WfT (fun s=>isb s=true) (d+1) (.mk op n q s ks)):=⟨false,rfl,fun h_=>(by cases h_),fun ⟨_,_,_,_,_,_,_,_,h9⟩=>by rw[h.2 (h9 k hk)] at hb;cases hb⟩
theorem At (h:EJ isb op n q s ks.length)(hq:LQ 1 q)(hW:∀ i,i<ks.length→WfT (fun s=>isb s=true) d (ks.getD i bE)):∃ bb,Value.bool true=.bool bb∧(bb=true↔WfT (fun s=>isb s=true) (d+1) (.mk op n q s ks)):=by
 obtain ⟨h1,h2,⟨h4,h5⟩,h6,h7,h8⟩:=h;refine ⟨true,rfl,fun _=>⟨h1,fun e=>Rat.num_eq_zero.1 (h2.resolve_left e),hq,h4,h5,fun e=>h6.resolve_left e,h7,h8,hW⟩,fun _=>rfl⟩
end
def CN (nm:Int→ByteArray)(l:List Stp):Nat→Nat→Tm
  | 0,_=>bE
  | f+1,i =>
    if (l.getD i dU).op=2 then .mk 2 0 0 (nm (l.getD i dU).n) []
    else if eg (l.getD i dU).op=1 then .mk (l.getD i dU).op (l.getD i dU).n 0 ⟨#[]⟩ [CN nm l f (l.getD i dU).a.toNat]
    else if eg (l.getD i dU).op=2 then .mk (l.getD i dU).op 0 0 ⟨#[]⟩ [CN nm l f (l.getD i dU).a.toNat,CN nm l f (l.getD i dU).b.toNat]
    else .mk (l.getD i dU).op 0 (l.getD i dU).q ⟨#[]⟩ []
structure MapJ (h0:Hp) (B:List Bx) (w:World) (h:Hp) (b:Nat) (es:List MapEntry) (clk:Nat):Prop where
  obj:w.heap[b]?=some (.map es.toArray clk)
  jk:h[b]?=some junk
  lo:h0.size≤b
  nb:∀ x∈B,x.b≠b
def MapS (h:Hp)(b:Nat)(es:List MapEntry):Prop:=∃ clk,h[b]?=some (.map es.toArray clk)
theorem MapS.gw {h h':Hp}{b:Nat}{es:List MapEntry}(x:MapS h b es)(u:Gw h h'):MapS h' b es:=by
 obtain ⟨c,e⟩:=x;refine ⟨c,?_⟩
 rcases u.blk b (aW e) with k|k
 ·exact k.trans e
 ·rw[e] at k;cases k
theorem MapS.w {w:World}{h:Hp}{b:Nat}{es:List MapEntry}(x:MapS h b es)(g:G w h):∃ clk,w.heap[b]?=some (.map es.toArray clk):=by
 obtain ⟨c,e⟩:=x;refine ⟨c,?_⟩
 rcases g.blk b with k|k
 ·rw[←k];exact e
 ·rw[e] at k;cases k
theorem wT {P:Program}(w:World){mty kt et:TypeId}{b clk:Nat}{es:Array MapEntry}{s:ByteArray}{val:Value}(hm:P.underlying mty=some (.map kt et))(hk:P.underlying kt=some .string)(hb:w.heap[b]?=some (.map es clk))(hf:Instr.findNow .string (.string s) es.toList 0=some none) :
  (Instr.mapUpdate mty (.map (some b)) (.string s) val).run P w=.ok () { w with heap:=w.heap.setIfInBounds b (.map (es.push { key:=.string s,val:=val,born:=clk }) (clk+1)) }:=by
 have hc:(Instr.checkKey false 10000 kt (.string s)).run P w=.ok () w:=MapKept.run_checkKey (k:=.string s) hk (by simp[MapKept.IsKey]) false 9999
 simp[Instr.mapUpdate,run_underlying hm,MapKept.run_getObj_map hb,hc,MapKept.run_findKey hk hf,MapKept.run_setObj_map _ hb,Result.andThen]
theorem tQ {P:Program}(w:World){mty kt et:TypeId}{b clk:Nat}{es:Array MapEntry}{s:ByteArray}(ok:Bool){v:Value}{found:Bool}(hm:P.underlying mty=some (.map kt et))(hk:P.underlying kt=some .string)(hb:w.heap[b]?=some (.map es clk))
  (hf:(∃ i,Instr.findNow .string (.string s) es.toList 0=some (some (i,v))∧found=true)∨(Instr.findNow .string (.string s) es.toList 0=some none∧found=false∧(zeroValue et).run P w=.ok v w)) :
  (Instr.lookup mty (.map (some b)) (.string s) ok).run P w=.ok (if ok then .tuple #[v,.bool found] else v) w:=by
 have hc:(Instr.checkKey es.isEmpty 10000 kt (.string s)).run P w=.ok () w:=MapKept.run_checkKey (k:=.string s) hk (by simp[MapKept.IsKey]) _ 9999
 rcases hf with ⟨i,hf,rfl⟩|⟨hf,rfl,hz⟩
 ·simp[Instr.lookup,run_underlying hm,MapKept.run_getObj_map hb,hc,MapKept.run_findKey hk hf,Result.andThen]
 ·simp[Instr.lookup,run_underlying hm,MapKept.run_getObj_map hb,hc,MapKept.run_findKey hk hf,hz,Result.andThen]
theorem vZ {w:World}{b:Nat}{o o':Obj}(hb:w.heap[b]?=some o):Put b w { w with heap:=w.heap.setIfInBounds b o' }∧({ w with heap:=w.heap.setIfInBounds b o' }:World).heap[b]?=some o':=by
 have hlt:b<w.heap.size:=(Array.getElem?_eq_some_iff.1 hb).1;refine ⟨⟨rfl,rfl,rfl,by simp,fun c hc=>by show (w.heap.setIfInBounds b o')[c]?=_;rw[Array.getElem?_setIfInBounds_ne (Ne.symm hc)]⟩,?_⟩
 show (w.heap.setIfInBounds b o')[b]?=_
 rw[Array.getElem?_setIfInBounds_self_of_lt hlt]
def iI (s t:ByteArray):Bool:=s.toList == t.toList
def kJ (s t:ByteArray):Bool:=!(s.toList == t.toList)
theorem fD {s t:ByteArray}(h:iI s t=true):s=t:=by
 have e:=eq_of_beq (show (s.toList == t.toList)=true from h);rw[Lib.toList_data,Lib.toList_data] at e
 cases s;cases t;congr 1;exact Array.toList_inj.1 e
theorem fA {s t:ByteArray}(h:iI s t=false):¬s=t:=fun e=>by
 subst e;have:iI s s=true:=beq_self_eq_true _;rw[this] at h;cases h
theorem pd {s t:ByteArray}(h:kJ s t=true):¬s=t:=fA (by unfold kJ at h;unfold iI;cases e:(s.toList == t.toList)<;>rw[e] at h<;>first|rfl|cases h)
theorem oX {s t:ByteArray}(h:kJ s t=false):s=t:=fD (by unfold kJ at h;unfold iI;cases e:(s.toList == t.toList)<;>rw[e] at h<;>first|rfl|cases h)
section laws
variable {P:Program} {n:Nat} {N R:Po} {X:Nat→Po} {ops:Array Oper} {k:Nat} {Γ:bG} {w:World} {h:Hp} {w0:World} {h0:Hp} {B:List Bx} {Rs:List Rw} {F:List (Hp→Prop)}
theorem SS.pokeJ (s:SS w0 h0 w h B [] F){b:Nat}{w':World}(hj:h[b]?=some junk)(hl:h0.size≤b)(hn:∀ x∈B,x.b≠b)(p:Put b w w'):SS w0 h0 w' h B [] F :=
 ⟨s.g0,⟨s.st.up.put p hj hl s.g0.size,fun x hx=>(p.blk _ (hn x hx)).trans (s.st.own x hx),s.st.jk,s.st.lo,s.st.nd⟩,fun _ hx=>(by cases hx),.nil,s.mo,s.f⟩
theorem FF (t:Nat)(s:SS w0 h0 w h B Rs F)(H:∀ b w' h',SS w0 h0 w' h' B Rs F→MapJ h0 B w' h' b [] 0→LG P n N R X ops (k+1) ((t,.map (some b))::Γ) w')(hc:cL ops Γ k t n=true:=by kernel_rfl)
  (hr:(execOp (ev Γ) (ao ops k)).run P w=.ok (.value (.map (some w.heap.size))) (w.alloc (.map #[] 0)):=by kernel_rfl):LG P n N R X ops k Γ w:=by
 have u:Up w h (w.alloc (.map #[] 0)) (h.push junk):=Up.allocAny s.g _ _ (.inr rfl);refine LG.val t _ _ (bC hc).1 (bC hc).2 hr (H _ _ _ (s.step u) ⟨?_,?_,?_,fun x hx e=>?_⟩)
 ·rw[cB];exact Array.getElem?_push_size
 ·rw[s.g.size];exact Array.getElem?_push_size
 ·rw[s.g.size];exact s.st.sz
 ·have:=aW (s.st.jk x hx)
  have:=s.g.size
  omega
theorem C7 {b clk:Nat}{es:List MapEntry}(mty kt et:TypeId)(ky:ByteArray)(val:Value)(s:SS w0 h0 w h B [] F)(m:MapJ h0 B w h b es clk)(H:∀ w',SS w0 h0 w' h B [] F→MapJ h0 B w' h b (es++[⟨.string ky,val,clk⟩]) (clk+1)→LG P n N R X ops (k+1) Γ w')
  (hc:cS ops Γ k=true:=by kernel_rfl)(hx:execOp (ev Γ) (ao ops k)=(do Instr.mapUpdate mty (.map (some b)) (.string ky) val;pure .skip):=by kernel_rfl)(hu:P.underlying mty=some (.map kt et):=by kernel_rfl)(hk:P.underlying kt=some .string:=by kernel_rfl)(hf:Instr.findNow .string (.string ky) es 0=some none:=by kernel_rfl):LG P n N R X ops k Γ w:=by
 have hr:=wT w (val:=val) hu hk m.obj hf;obtain ⟨p,ho⟩:=vZ (o':=.map (es.toArray.push { key:=.string ky,val:=val,born:=clk }) (clk+1)) m.obj;refine LG.store _ (kj hc).1 (kj hc).2 ?_ (H _ (s.pokeJ m.jk m.lo m.nb p) ⟨?_,m.jk,m.lo,m.nb⟩)
 ·rw[hx];simp[hr,Result.andThen]
 ·rw[ho];simp
theorem Ff (t:Nat){b:Nat}{es:List MapEntry}(mty kt et:TypeId)(ky:ByteArray)(ok:Bool)(v:Value)(found:Bool)(s:SS w0 h0 w h B Rs F)(m:MapS h b es)(H:LG P n N R X ops (k+1) ((t,if ok then .tuple #[v,.bool found] else v)::Γ) w)(hc:cL ops Γ k t n=true:=by kernel_rfl)
  (hx:execOp (ev Γ) (ao ops k)=(do pure (.value (←Instr.lookup mty (.map (some b)) (.string ky) ok))):=by kernel_rfl)(hu:P.underlying mty=some (.map kt et):=by kernel_rfl)(hk:P.underlying kt=some .string:=by kernel_rfl)
  (hf:(∃ i,Instr.findNow .string (.string ky) es 0=some (some (i,v))∧found=true)∨(Instr.findNow .string (.string ky) es 0=some none∧found=false∧∀ w,(zeroValue et).run P w=.ok v w)):LG P n N R X ops k Γ w:=by
 obtain ⟨clk,hm⟩:=m.w s.g;refine LG.val t _ w (bC hc).1 (bC hc).2 ?_ H;rw[hx];have hr:=tQ w ok (v:=v) (found:=found) hu hk hm (hf.imp id fun h=>⟨h.1,h.2.1,h.2.2 w⟩)
 simp[hr,Result.andThen]
theorem SS.pubMap {b clk:Nat}{es:List MapEntry}(s:SS w0 h0 w h B [] F)(m:MapJ h0 B w h b es clk):∃ h',SS w0 h0 w h' B [] F∧MapS h' b es:=by
 have hlt:=aW m.jk;refine ⟨h.setIfInBounds b (.map es.toArray clk),⟨s.g0,⟨⟨s.st.up.ext,⟨by simp;exact s.st.up.gr.size,fun c hc=>?_⟩,⟨by simp;exact s.st.up.g.size,fun c=>?_⟩⟩,s.st.own,fun x hx=>?_,s.st.lo,s.st.nd⟩,fun _ hx=>(by cases hx),.nil,s.mo,s.f.gw s.mo ⟨by simp,fun c _=>?_⟩⟩,clk,?_⟩
 ·have:=m.lo
  rw[Array.getElem?_setIfInBounds_ne oM];exact s.st.up.gr.blk c hc
 ·by_cases e:b=c
  ·subst e;left;rw[Array.getElem?_setIfInBounds_self_of_lt hlt];exact m.obj.symm
  ·rw[Array.getElem?_setIfInBounds_ne e];exact s.st.up.g.blk c
 ·rw[Array.getElem?_setIfInBounds_ne (Ne.symm (m.nb x hx))];exact s.st.jk x hx
 ·by_cases e:b=c
  ·subst e;exact .inr m.jk
  ·left;rw[Array.getElem?_setIfInBounds_ne e]
 ·rw[Array.getElem?_setIfInBounds_self_of_lt hlt]
end laws
theorem tU {α:Type}{l:List α}{d x:α}{k i:Nat}(hk:k<l.length):(l.set k x).getD i d=if i=k then x else l.getD i d:=by
 rw[List.getD_eq_getElem?_getD,List.getElem?_set]
 by_cases e:k=i
 ·subst e;rw[if_pos rfl,if_pos hk,if_pos rfl];rfl
 ·rw[if_neg e,if_neg (fun h=>e h.symm),←List.getD_eq_getElem?_getD]
def TmsU (d:Nat)(h:Hp)(k:Nat)(ps:List PTm)(ts:List Tm):Prop:=∀ i,i<k→TmH d h (ps.getD i aE) (ts.getD i bE)
theorem TmsU.gw {d:Nat}{h h':Hp}{k:Nat}{ps:List PTm}{ts:List Tm}(x:TmsU d h k ps ts)(u:Gw h h'):TmsU d h' k ps ts:=fun i hi=>(x i hi).gw u
theorem TmsU.set {d:Nat}{h:Hp}{k:Nat}{ps:List PTm}{ts:List Tm}{p:PTm}(x:TmsU d h k ps ts)(hk:k<ps.length)(y:TmH d h p (ts.getD k bE)):TmsU d h (k+1) (ps.set k p) ts:=fun i hi=>by
 rw[tU hk]
 by_cases e:i=k
 ·subst e;rw[if_pos rfl];exact y
 ·rw[if_neg e];exact x i oM
theorem Tms.of_u {d:Nat}{h:Hp}{k:Nat}{ps:List PTm}{ts:List Tm}(hl:ps.length=ts.length)(hk:ts.length≤k)(x:TmsU d h k ps ts):Tms d h ps ts:=⟨hl,fun i hi=>x i oM⟩
theorem qr (f:Nat→Nat){a b:Nat}(h:a≤b):e7 f a≤e7 f b:=by
 induction h with
 | refl=>exact Nat.le_refl _
 | step _ ih=>exact Nat.le_trans ih (Nat.le_add_right _ _)
def f6 (op n:Int):Nat:=if op=11 then 2 else if op=8 then bP n else 1
theorem eM (op n:Int):1≤f6 op n:=by
 unfold f6 bP
 split
 ·omega
 ·split
  ·split<;>omega
  ·omega
theorem rJ {d:Nat}{op n:Int}{q:Rat}{s:ByteArray}{ks:List Tm}(h:ks.length=0):bV (d+1) (.mk op n q s ks)=1:=if_pos h
theorem jV {d:Nat}{op n:Int}{q:Rat}{s:ByteArray}{ks:List Tm}(h:ks.length≠0):bV (d+1) (.mk op n q s ks)=f6 op n*e7 (fun i=>bV d (ks.getD i bE)) ks.length:=if_neg h
theorem n6 {d:Nat}{op n:Int}{q:Rat}{s:ByteArray}{ks:List Tm}(h:ks.length≠0):e7 (fun i=>bV d (ks.getD i bE)) ks.length≤bV (d+1) (.mk op n q s ks):=by
 rw[jV h];exact Nat.le_mul_of_pos_left _ (eM op n)
theorem jS {m s:Nat}(h:1≤m):min (m*min s 1001) 1001=min (m*s) 1001:=by
 rcases Nat.le_total s 1001 with e|e
 ·rw[Nat.min_eq_left e]
 ·rw[Nat.min_eq_right e,Nat.min_eq_right (Nat.le_trans e (Nat.le_mul_of_pos_left _ h)),Nat.min_eq_right (Nat.le_mul_of_pos_left _ h)]
theorem oN (op:Int)(w:World)(h:Hp)(g:G w h):CV 73 #[iV op] w h (iV (eg op)):=by
 have hs:=sS g;refine go Tryz.func73 [(0,iV op)] rfl (ab hs [.v 2 (iV 0)] (ae (ab hs [.m 3 0] (bc (cQ (aA ?_))))));cases hb1:((op:Int) == (1:Int))
 ·
  have phb1:=ag hb1;refine lB 5 hb1 (lL hs [.m 4 5] (af (kQ ?_)));cases hb2:((op:Int) == (2:Int))
  ·
   have phb2:=ag hb2;refine lB 6 hb2 (lL hs [.m 4 6] (af (cQ (aA ?_))));cases hb3:((op:Int) == (7:Int))
   ·
    have phb3:=ag hb3;refine lB 8 hb3 (lL hs [.m 7 8] (af (aA ?_)));cases hb4:((op:Int) == (8:Int))
    ·
     have phb4:=ag hb4;refine lB 9 hb4 (lL hs [.m 7 9] (af (aA ?_)));cases hb5:((op:Int) == (9:Int))
     ·
      have phb5:=ag hb5;refine lB 10 hb5 (lL hs [.m 7 10] (af (aA ?_)));cases hb6:((op:Int) == (10:Int))
      ·
       have phb6:=ag hb6;refine lB 11 hb6 (lL hs [.m 7 11] (af (kQ ?_)));cases hb7:((op:Int) == (11:Int))
       ·
        have phb7:=ag hb7;refine lB 12 hb7 (lL hs [.m 7 12] (af (cQ (aA ?_))));cases hb8:((op:Int) == (3:Int))
        ·
         have phb8:=ag hb8;refine lB 14 hb8 (lL hs [.m 13 14] (af (aA ?_)));cases hb9:((op:Int) == (4:Int))
         ·
          have phb9:=ag hb9;refine lB 15 hb9 (lL hs [.m 13 15] (af (aA ?_)));cases za:((op:Int) == (5:Int))
          ·
           have ze:=ag za;refine lB 16 za (lL hs [.m 13 16] (af (aA ?_)));cases zb:((op:Int) == (6:Int))
           ·
            have zf:=ag zb;refine lB 17 zb (lL hs [.m 13 17] (af (aA ?_)));cases zc:((op:Int) == (12:Int))
            ·
             have zg:=ag zc;refine lB 18 zc (lL hs [.m 13 18] (af (kQ ?_)));cases zd:((op:Int) == (13:Int))
             ·
              have zi:=ag zd;exact lB 19 zd (lL hs [.m 13 19] (af (cK (ab hs [.v 2 (iV (-1))] (ac hs [] (iV (-1)) (congrArg (Value.int .i64) (by have:=aG op;omega)))))))
             have zi:=eq_of_beq zd;exact lB 19 zd (lL hs [.m 13 19] (am (ab hs [.v 2 (iV 2)] (ac hs [] (iV 2) (congrArg (Value.int .i64) (by have:=aG op;omega))))))
            have zg:=eq_of_beq zc;exact lB 18 zc (lL hs [.m 13 18] (am (cK (cf (ab hs [.v 2 (iV 2)] (ac hs [] (iV 2) (congrArg (Value.int .i64) (by have:=aG op;omega))))))))
           have zf:=eq_of_beq zb;exact lB 17 zb (lL hs [.m 13 17] (am (cK (cf (ab hs [.v 2 (iV 2)] (ac hs [] (iV 2) (congrArg (Value.int .i64) (by have:=aG op;omega))))))))
          have ze:=eq_of_beq za;exact lB 16 za (lL hs [.m 13 16] (am (cK (cf (ab hs [.v 2 (iV 2)] (ac hs [] (iV 2) (congrArg (Value.int .i64) (by have:=aG op;omega))))))))
         have phb9:=eq_of_beq hb9;exact lB 15 hb9 (lL hs [.m 13 15] (am (cK (cf (ab hs [.v 2 (iV 2)] (ac hs [] (iV 2) (congrArg (Value.int .i64) (by have:=aG op;omega))))))))
        have phb8:=eq_of_beq hb8;exact lB 14 hb8 (lL hs [.m 13 14] (am (cK (cf (ab hs [.v 2 (iV 2)] (ac hs [] (iV 2) (congrArg (Value.int .i64) (by have:=aG op;omega))))))))
       have phb7:=eq_of_beq hb7;exact lB 12 hb7 (lL hs [.m 7 12] (am (ab hs [.v 2 (iV 1)] (ac hs [] (iV 1) (congrArg (Value.int .i64) (by have:=aG op;omega))))))
      have phb6:=eq_of_beq hb6;exact lB 11 hb6 (lL hs [.m 7 11] (am (cK (cf (ab hs [.v 2 (iV 1)] (ac hs [] (iV 1) (congrArg (Value.int .i64) (by have:=aG op;omega))))))))
     have phb5:=eq_of_beq hb5;exact lB 10 hb5 (lL hs [.m 7 10] (am (cK (cf (ab hs [.v 2 (iV 1)] (ac hs [] (iV 1) (congrArg (Value.int .i64) (by have:=aG op;omega))))))))
    have phb4:=eq_of_beq hb4;exact lB 9 hb4 (lL hs [.m 7 9] (am (cK (cf (ab hs [.v 2 (iV 1)] (ac hs [] (iV 1) (congrArg (Value.int .i64) (by have:=aG op;omega))))))))
   have phb3:=eq_of_beq hb3;exact lB 8 hb3 (lL hs [.m 7 8] (am (cK (cf (ab hs [.v 2 (iV 1)] (ac hs [] (iV 1) (congrArg (Value.int .i64) (by have:=aG op;omega))))))))
  have phb2:=eq_of_beq hb2;exact lB 6 hb2 (lL hs [.m 4 6] (am (ab hs [.v 2 (iV 0)] (ac hs [] (iV 0) (congrArg (Value.int .i64) (by have:=aG op;omega))))))
 have phb1:=eq_of_beq hb1;exact lB 5 hb1 (lL hs [.m 4 5] (am (cK (cf (ab hs [.v 2 (iV 0)] (ac hs [] (iV 0) (congrArg (Value.int .i64) (by have:=aG op;omega))))))))
theorem AM (n:Int)(h0 : -12≤n)(h1:n≤12)(w:World)(h:Hp)(g:G w h):CV 75 #[iV n] w h (nV (bP n)):=by
 have hs:=sS g;refine go Tryz.func75 [(0,iV n)] rfl (ab hs [.v 2 (iV 0)] (ae (ab hs [.m 3 0] ?_)));cases hb1:(decide ((n:Int)≤(-1073741824:Int)))
 ·
  have phb1:=oF hb1;refine lB 4 hb1 (lL hs [.m 5 4,.m 6 0] ?_);cases hb2:(decide ((1073741824:Int)≤(n:Int)))
  ·
   have phb2:=oF hb2;refine lB 7 hb2 (lL hs [.v 8 qF] (af (cK (ab hs [.m 9 0,.m 10 0] (lI 11 (0-n) ?_)))));refine lV 12 (iV (max (max (n:Int) (0-n:Int)) (1:Int))) ?_ (hr:=aU (n:=(if (1:Int)>(if (0-n:Int)>(n:Int) then (0-n:Int) else (n:Int)) then (1:Int) else (if (0-n:Int)>(n:Int) then (0-n:Int) else (n:Int)))) kR (by simp only[pP]));exact lL hs [.m 2 12] (ac hs [] (iV (max (max (n:Int) (0-n:Int)) (1:Int))) (congrArg (Value.int .i64) (by unfold bP;(repeat' split)<;>omega)))
  have phb2:=oT hb2;exact lB 7 hb2 (lL hs [.v 8 qT] (am (ab hs [.v 2 (iV 1073741824)] (ac hs [] (iV 1073741824) (congrArg (Value.int .i64) (by unfold bP;(repeat' split)<;>omega))))))
 have phb1:=oT hb1;refine lB 4 hb1 (lL hs [.m 5 4] (lG 6 ?_));exact lG 7 (lL hs [.v 8 qT] (am (ab hs [.v 2 (iV 1073741824)] (ac hs [] (iV 1073741824) (congrArg (Value.int .i64) (by unfold bP;(repeat' split)<;>omega))))))
theorem uO  (sm:ByteArray→Prop)(d:Nat)(ih:∀ (p:PTm) (t:Tm) (most:Int) (w:World) (h:Hp),G w h→TmH d h p t→SmT sm d t→(d:Int)≤most→most≤1000→Calls Tryz.prog 45 #[dC p,iV most] w (Ret w h (fun v _=>v=.bool false)))(op n:Int)(q:Rat)(s:ByteArray)(A:Option Addr)(c:Nat)(ps:List PTm)(ks:List Tm)(hc:ps.length≤c)(hlp:ps.length≤3)(hk3:ks.length≤3)(hop : -1000≤op∧op≤1000)(hn : -1000≤n∧n≤1000)(hq:LQ 1 q)(hsm:sm s)(hW:∀ i,i<ks.length→SmT sm d (ks.getD i bE))(most:Int)(hm:((d+1:Nat):Int)≤most)(hm2:most≤1000)(w:World)(h:Hp)(g:G w h)(hK:SlO 9 cj aE h A ps)(hKs:Tms d h ps ks):CV 45 #[pW op n q s A ps.length c,iV most] w h (.bool false):=by
 have hs:=(((sS g).aS hK).add (K:=fun h_=>Tms d h_ ps ks) hKs);have hln:=(hs.f.1).len;refine go Tryz.func45 [(0,pW op n q s A ps.length c),(1,iV most)] rfl (aA (lA 2 46 (pG op n q s A ps.length c) hs (fun b1 w2 h3 hs=>lL hs [.v 4 qF] (ae (ab hs [.m 7 1] ?_)))));cases hb4:(decide ((most:Int)<(1:Int)))
 ·
  have phb4:=oF hb4;refine lB 8 hb4 (af (cK (cQ (ab hs [.v 9 (qP b1 8),.o 10 (qS A ps.length c) 0 8 1,.v 11 (nV ps.length),.v 12 (iV 0)] (bc ?_)))));refine bJ _ (CG.loop (fun μ_ Γ w_=>∃ (k:Nat) (h_:Hp),μ_=ps.length-k∧Γ=[(1,iV most),(10,qS A ps.length c),(11,nV ps.length),(12,nV k)]∧SS w h w_ h_ [⟨b1,46,pG op n q s A ps.length c⟩] [] [fun h_=>Tms d h_ ps ks,fun h_=>SlO 9 cj aE h_ A ps]∧k≤ps.length) _ ⟨0,h3,rfl,rfl,hs.to _ _,Nat.zero_le _⟩ ?_);rintro _ _ w5 ⟨k,h6,hm7,rfl,hs,hk⟩;refine aA ?_;cases hb8:(decide ((k:Int)<(ps.length:Int)))
  ·
   have phb8:=oF hb8;refine lB 13 hb8 (ae (cF (CG.exit ?_)))
   show CG _ _ _ _ _ _ _ _
   exact ab hs [.v 4 qF] (ac hs [] qF rfl)
  have phb8:=oT hb8;refine lB 13 hb8 (ae (cf (cK (cQ (kZ (aA (lX 14 A ps.length c 9 (k:Nat) k ((hs.f.2.1).ok oM) ?_)))))));refine lH 15 (pX (ps.getD k aE)) hs ((hs.f.2.1).el k oM) (lA 6 46 ([iV 0,iV 0,qF,uV 0,eS,uV 0,eS,eS,sZ]) hs (fun b9 _ _ hs=>lP 0 0 (pC (ps.getD k aE)) hs (fun _ hs=>aJ (lL hs [.o 16 (pX (ps.getD k aE)) 0 0 9,.m 17 1] (lI 18 (most-1) ?_)))));refine ah 19 hs (ih (ps.getD k aE) (ks.getD k bE) (most-1) _ _ hs.g ((hs.f.1).at_ k oM) (hW k oM) oM oM) (fun _ za hs=>af (cK (kQ (bu 20 ((k:Nat)+1) (k+1) ?_))));refine lL hs [.m 12 20] (lD ?_);intro a_ ka;replace hs:=hs.drop 1 0;refine ⟨_,_,?_,⟨k+1,za,rfl,rfl,hs.to _ _,oM⟩,ka.to _ kR⟩
  omega
 have phb4:=oT hb4;refine lB 8 hb4 (am (ab hs [.v 4 qT] (lN (kX ?_))))
 exfalso;omega
theorem o6 (sm:ByteArray→Prop):∀ (d:Nat) (p:PTm) (t:Tm) (most:Int) (w:World) (h:Hp),G w h→TmH d h p t→SmT sm d t→(d:Int)≤most→most≤1000→Calls Tryz.prog 45 #[dC p,iV most] w (Ret w h (fun v _=>v=.bool false))
  | 0,_,_,_,_,_,_,x,_,_,_=>x.elim
  | d+1,p,t,most,w,h,g,x,wf,hm,hm2=>by
    obtain ⟨op,n,q,s,A,c,ps,ks,rfl,rfl,hc,hK,hKs⟩:=x.open;obtain ⟨s1,s2,s3,s4,s5,s6⟩:=wf;have s1_:ks.length≤3:=s1;exact uO sm d (fun p t most w h=>o6 sm d p t most w h) op n q s A c ps ks hc (by have:=hKs.len;omega) s1 s2 s3 s4 s5 s6 most hm hm2 w h g hK hKs
theorem rx  (isb:ByteArray→Bool)(sm:ByteArray→Prop)(hIs:∀ s,sm s→∀ (w:World) (h:Hp),G w h→Calls Tryz.prog 74 #[.string s] w (Ret w h (fun v _=>∃ b,v=.bool b∧b=isb s)))(d:Nat)(ih:∀ (p:PTm) (t:Tm) (w:World) (h:Hp),G w h→TmH d h p t→SmT sm d t →  Calls Tryz.prog 46 #[dC p] w (Ret w h (fun v _=>∃ bb,v=.bool bb∧(bb=true↔WfT (fun s=>isb s=true) d t))))(op n:Int)(q:Rat)(s:ByteArray)(A:Option Addr)(c:Nat)(ps:List PTm)(ks:List Tm)(hc:ps.length≤c)(hlp:ps.length≤3)(hk3:ks.length≤3)(hop : -1000≤op∧op≤1000)(hn : -1000≤n∧n≤1000)(hq:LQ 1 q)(hsm:sm s)(hW:∀ i,i<ks.length→SmT sm d (ks.getD i bE))(w:World)(h:Hp)(g:G w h)(hK:SlO 9 cj aE h A ps)(hKs:Tms d h ps ks):CR 46 #[pW op n q s A ps.length c] w h (fun v _=>∃ bb,v=.bool bb∧(bb=true↔WfT (fun s=>isb s=true) (d+1) (.mk op n q s ks))):=by
 have hs:=(((sS g).aS hK).add (K:=fun h_=>Tms d h_ ps ks) hKs);have hln:=(hs.f.1).len;have hsg:q.num.sign=0↔q.num=0:=Int.sign_eq_zero_iff_zero;refine go Tryz.func46 [(0,pW op n q s A ps.length c)] rfl (aA (lA 1 46 (pG op n q s A ps.length c) hs (fun b1 w2 h3 hs=>lL hs [.v 2 qF] (ae (cQ (cR 7 [] mixed hs ar ?_))))));refine eV 0 5 (pB b1) (eO 1 6 [(0,0,1)] (iV op) hs (eV 3 8 (qP b1 8) (eO 4 9 [(0,8,1)] (qS A ps.length c) hs (eV 5 10 (nV ps.length) (aq 2 7 hs (fun _ _ hs=>oN op _ _ hs.g) (fun w4 h5 hs=>?_))))));cases hb6:((eg op:Int) != (ps.length:Int))
 ·
  have phb6:=aI hb6;refine eB 6 11 hb6 (cg hs (fun w7 h8 hs=>?_));refine tN (cF (cK (cQ (CG.join (fun Γ w_=>∃ (zm:Bool) (h_:Hp),Γ=[(1,pB b1),(2,qF),(20,.bool zm)]∧SS w h w_ h_ [⟨b1,46,pG op n q s A ps.length c⟩] [] [fun h_=>Tms d h_ ps ks,fun h_=>SlO 9 cj aE h_ A ps]∧(zm=true→¬(op=1∨q.num=0))∧(zm=false→(op=1∨q.num=0))) ?_ ?_))))
  ·
   refine kQ (lL hs [.v 12 (pB b1),.o 13 (iV op) 0 0 1] ?_);cases hb9:((op:Int) != (1:Int))
   ·
    have phb9:=aI hb9;refine lB 14 hb9 (lL hs [.m 15 14] (lG 16 ?_));refine lG 17 (lG 18 (lG 19 (lL hs [.v 20 qF] (lD ?_))));intro a_ ka;exact ⟨_,⟨false,h8,rfl,hs.to _ _,(fun h_=>absurd h_ kD),(fun _=>by omega)⟩,ka.to _ kR⟩
   have phb9:=aR hb9;refine lB 14 hb9 (lL hs [.m 15 14,.v 16 (qP b1 2),.o 17 (qv q) 0 2 5] (ah 18 hs (g8 q (hq.mono oM) _ _ hs.g) (fun _ zD hs=>?_)));cases za:((q.num.sign:Int) != (0:Int))
   ·
    have zs:=aI za;refine lB 19 za (lL hs [.v 20 qF] (lD ?_));intro a_ ka;exact ⟨_,⟨false,zD,rfl,hs.to _ _,(fun h_=>absurd h_ kD),(fun _=>by omega)⟩,ka.to _ kR⟩
   have zs:=aR za;refine lB 19 za (lL hs [.v 20 qT] (lD ?_));intro a_ ka;exact ⟨_,⟨true,zD,rfl,hs.to _ _,(fun _=>by omega),(fun h_=>absurd h_ kD)⟩,ka.to _ kR⟩
  rintro _ _ ⟨zm,zE,rfl,hs,zH,hF20⟩;cases zb:(zm)
  ·
   try rw[zb] at hs
   try rw[zb]
   refine cF (cK (cQ (CG.join (fun Γ w_=>∃ (zn:Bool) (h_:Hp),Γ=[(1,pB b1),(2,qF),(39,.bool zn)]∧SS w h w_ h_ [⟨b1,46,pG op n q s A ps.length c⟩] [] [fun h_=>Tms d h_ ps ks,fun h_=>SlO 9 cj aE h_ A ps]∧(zn=true→¬((op=2→isb s=true)∧(op≠2→s=⟨#[]⟩)))∧(zn=false→((op=2→isb s=true)∧(op≠2→s=⟨#[]⟩)))) ?_ ?_)))
   ·
    refine kQ (lL hs [.v 21 (pB b1),.o 22 (iV op) 0 0 1] ?_);cases zc:((op:Int) == (2:Int))
    ·
     have zt:=ag zc;refine lB 23 zc (lL hs [.m 24 23] (lG 25 ?_));refine lG 26 (lG 27 (lG 28 (lL hs [.v 29 qF,.m 30 29,.v 31 (pB b1),.o 32 (iV op) 0 0 1] ?_)));have zq:((op:Int) != (2:Int))=true:=uk oM;have phb23:=aR zq;refine lB 33 zq (lL hs [.m 34 33,.v 35 (qP b1 7),.o 36 (.string s) 0 7 1] ?_);cases zd:(kJ s (⟨#[]⟩))
     ·
      have zu:=oX zd;refine lB 37 zd (lL hs [.v 38 qF,.v 39 qF] (lD ?_));intro a_ ka;exact ⟨_,⟨false,zE,rfl,hs.to _ _,(fun h_=>absurd h_ kD),(fun _=>⟨fun h_=>by first|exact hbi.symm.trans aM|exact absurd h_ oM,fun h_=>by first|assumption|exact absurd h_ oM⟩)⟩,ka.to _ kR⟩
     have zu:=pd zd;refine lB 37 zd (lL hs [.v 38 qT,.v 39 qT] (lD ?_));intro a_ ka;exact ⟨_,⟨true,zE,rfl,hs.to _ _,(fun _ h_=>by first|exact Bool.noConfusion ((h_.1 oM).symm.trans (hbi.symm.trans aM))|exact absurd (h_.2 oM) aM),(fun h_=>absurd h_ kD)⟩,ka.to _ kR⟩
    have zt:=eq_of_beq zc;refine lB 23 zc (lL hs [.m 24 23,.v 25 (qP b1 7),.o 26 (.string s) 0 7 1] (lC 27 hs (hIs s hsm _ _ hs.g) ?_));rintro _ _ zG hs ⟨bi,rfl,hbi⟩;cases hb31:(bi)
    ·
     refine lL hs [.v 28 qT,.v 29 qT,.m 30 29] (lG 31 ?_);refine lG 32 (lG 33 (lG 34 (lG 35 (lG 36 (lG 37 (lG 38 (lL hs [.v 39 qT] (lD ?_))))))));intro a_ ka;exact ⟨_,⟨true,zG,rfl,hs.to _ _,(fun _ h_=>by first|exact Bool.noConfusion ((h_.1 oM).symm.trans (hbi.symm.trans aM))|exact absurd (h_.2 oM) aM),(fun h_=>absurd h_ kD)⟩,ka.to _ kR⟩
    refine lL hs [.v 28 qF,.v 29 qF,.m 30 29,.v 31 (pB b1),.o 32 (iV op) 0 0 1] ?_;have zr:((op:Int) != (2:Int))=false:=kg oM;have phb34:=aI zr;refine lB 33 zr (lL hs [.m 34 33] (lG 35 ?_));refine lG 36 (lG 37 (lL hs [.v 38 qF,.v 39 qF] (lD ?_)));intro a_ ka;exact ⟨_,⟨false,zG,rfl,hs.to _ _,(fun h_=>absurd h_ kD),(fun _=>⟨fun h_=>by first|exact hbi.symm.trans aM|exact absurd h_ oM,fun h_=>by first|assumption|exact absurd h_ oM⟩)⟩,ka.to _ kR⟩
   rintro _ _ ⟨zn,zo,rfl,hs,zI,hF39⟩;cases ze:(zn)
   ·
    try rw[ze] at hs
    try rw[ze]
    refine cF (cK (cQ (CG.join (fun Γ w_=>∃ (zp:Bool) (h_:Hp),Γ=[(1,pB b1),(2,qF),(57,.bool zp)]∧SS w h w_ h_ [⟨b1,46,pG op n q s A ps.length c⟩] [] [fun h_=>Tms d h_ ps ks,fun h_=>SlO 9 cj aE h_ A ps]∧(zp=true→¬((op=8∨n=0) ∧ -12≤n∧n≤12))∧(zp=false→((op=8∨n=0) ∧ -12≤n∧n≤12))) ?_ ?_)))
    ·
     refine kQ (lL hs [.v 40 (pB b1),.o 41 (iV op) 0 0 1] ?_);cases zf:((op:Int) != (8:Int))
     ·
      have zv:=aI zf;refine lB 42 zf (lL hs [.m 43 42] (lG 44 ?_));refine lG 45 (lG 46 (lL hs [.v 47 qF,.m 48 47,.v 49 (qP b1 1),.o 50 (iV n) 0 1 1] ?_));cases zg:(decide ((n:Int)<(-12:Int)))
      ·
       have zw:=oF zg;refine lB 51 zg (lL hs [.v 52 qF,.m 53 52,.v 54 (qP b1 1),.o 55 (iV n) 0 1 1] ?_);cases zi:(decide ((12:Int)<(n:Int)))
       ·
        have zx:=oF zi;refine lB 56 zi (lL hs [.v 57 qF] (lD ?_));intro a_ ka;exact ⟨_,⟨false,zo,rfl,hs.to _ _,(fun h_=>absurd h_ kD),(fun _=>by omega)⟩,ka.to _ kR⟩
       have zx:=oT zi;refine lB 56 zi (lL hs [.v 57 qT] (lD ?_));intro a_ ka;exact ⟨_,⟨true,zo,rfl,hs.to _ _,(fun _=>by omega),(fun h_=>absurd h_ kD)⟩,ka.to _ kR⟩
      have zw:=oT zg;refine lB 51 zg (lL hs [.v 52 qT,.m 53 52] (lG 54 ?_));refine lG 55 (lG 56 (lL hs [.v 57 qT] (lD ?_)));intro a_ ka;exact ⟨_,⟨true,zo,rfl,hs.to _ _,(fun _=>by omega),(fun h_=>absurd h_ kD)⟩,ka.to _ kR⟩
     have zv:=aR zf;refine lB 42 zf (lL hs [.m 43 42,.v 44 (qP b1 1),.o 45 (iV n) 0 1 1] ?_);cases zj:((n:Int) != (0:Int))
     ·
      have zA:=aI zj;refine lB 46 zj (lL hs [.v 47 qF,.m 48 47,.v 49 (qP b1 1),.o 50 (iV n) 0 1 1] ?_);have ⟨zJ,phb50⟩:=dF (p:=(n:Int)<(-12:Int)) oM;refine lB 51 zJ (lL hs [.v 52 qF,.m 53 52,.v 54 (qP b1 1),.o 55 (iV n) 0 1 1] ?_);have ⟨zK,phb51⟩:=dF (p:=(12:Int)<(n:Int)) oM;refine lB 56 zK (lL hs [.v 57 qF] (lD ?_));intro a_ ka;exact ⟨_,⟨false,zo,rfl,hs.to _ _,(fun h_=>absurd h_ kD),(fun _=>by omega)⟩,ka.to _ kR⟩
     have zA:=aR zj;refine lB 46 zj (lL hs [.v 47 qT,.m 48 47] (lG 49 ?_));refine lG 50 (lG 51 (lL hs [.v 52 qT,.m 53 52] (lG 54 ?_)));refine lG 55 (lG 56 (lL hs [.v 57 qT] (lD ?_)));intro a_ ka;exact ⟨_,⟨true,zo,rfl,hs.to _ _,(fun _=>by omega),(fun h_=>absurd h_ kD)⟩,ka.to _ kR⟩
    rintro _ _ ⟨zp,zM,rfl,hs,zL,hF57⟩;cases zk:(zp)
    ·
     try rw[zk] at hs
     try rw[zk]
     refine cF (cK (cQ (ab hs [.v 58 (qP b1 8),.o 59 (qS A ps.length c) 0 8 1,.v 60 (nV ps.length),.v 61 (iV 0)] (bc ?_))));refine bJ _ (CG.loop (fun μ_ Γ w_=>∃ (k:Nat) (h_:Hp),μ_=ps.length-k∧Γ=[(59,qS A ps.length c),(60,nV ps.length),(61,nV k)]∧SS w h w_ h_ [⟨b1,46,pG op n q s A ps.length c⟩] [] [fun h_=>Tms d h_ ps ks,fun h_=>SlO 9 cj aE h_ A ps]∧k≤ps.length∧(∀ i,i<k→WfT (fun s=>isb s=true) d (ks.getD i bE))) _ ⟨0,zM,rfl,rfl,hs.to _ _,Nat.zero_le _,(fun i hi=>absurd hi (Nat.not_lt_zero i))⟩ ?_);rintro _ _ _ ⟨k,_,hm61,rfl,hs,hk,hWk⟩;refine aA ?_;cases zl:(decide ((k:Int)<(ps.length:Int)))
     ·
      have zB:=oF zl;refine lB 62 zl (ae (cF (CG.exit ?_)))
      show CG _ _ _ _ _ _ _ _
      exact ab hs [.v 2 qT] (ac hs [] qT (At ⟨by omega,hF20 aM,hF39 aM,hF57 aM⟩ hq (fun i hi=>hWk i oM)))
     have zB:=oT zl;refine lB 62 zl (ae (cf (cK (cQ (kZ (aA (lX 63 A ps.length c 9 (k:Nat) k ((hs.f.2.1).ok oM) ?_)))))));refine lH 64 (pX (ps.getD k aE)) hs ((hs.f.2.1).el k oM) (lA 4 46 ([iV 0,iV 0,qF,uV 0,eS,uV 0,eS,eS,sZ]) hs (fun b63 _ _ hs=>lP 0 0 (pC (ps.getD k aE)) hs (fun _ hs=>aJ (lL hs [.o 65 (pX (ps.getD k aE)) 0 0 9] (lC 66 hs (ih (ps.getD k aE) (ks.getD k bE) _ _ hs.g ((hs.f.1).at_ k oM) (hW k oM)) ?_)))));rintro _ _ zN hs ⟨bk,rfl,hbk⟩;cases hb69:(bk)
     ·
      exact lL hs [.v 67 qT] (am (ab hs [.v 2 qF] (ac hs [] qF (An (k:=k) oM aM hbk))))
     refine lL hs [.v 67 qF] (af (cK (kQ (bu 68 ((k:Nat)+1) (k+1) ?_))));refine lL hs [.m 61 68] (lD ?_);intro a_ ka;replace hs:=hs.drop 1 0;refine ⟨_,_,?_,⟨k+1,zN,rfl,rfl,hs.to _ _,oM,(fun i hi=>by rcases Nat.lt_succ_iff_lt_or_eq.1 hi with h_|rfl;exact hWk i h_;exact hbk.1 aM)⟩,ka.to _ kR⟩
     omega
    try rw[zk] at hs
    try rw[zk]
    exact cf (ab hs [.v 2 qF] (ac hs [] qF (mU (fun h_=>zL aM h_.2.2.2))))
   try rw[ze] at hs
   try rw[ze]
   exact cf (ab hs [.v 2 qF] (ac hs [] qF (mU (fun h_=>zI aM h_.2.2.1))))
  try rw[zb] at hs
  try rw[zb]
  exact cf (ab hs [.v 2 qF] (ac hs [] qF (mU (fun h_=>zH aM h_.2.1))))
 have phb6:=aR hb6;exact eB 6 11 hb6 (cg hs (fun _ _ hs=>tN (cf (ab hs [.v 2 qF] (ac hs [] qF (mU (fun h_=>absurd h_.1 oM)))))))
theorem mH (isb:ByteArray→Bool)(sm:ByteArray→Prop)(hIs:∀ s,sm s→∀ (w:World) (h:Hp),G w h→Calls Tryz.prog 74 #[.string s] w (Ret w h (fun v _=>∃ b,v=.bool b∧b=isb s))):∀ (d:Nat) (p:PTm) (t:Tm) (w:World) (h:Hp),G w h→TmH d h p t→SmT sm d t →  Calls Tryz.prog 46 #[dC p] w (Ret w h (fun v _=>∃ bb,v=.bool bb∧(bb=true↔WfT (fun s=>isb s=true) d t)))
  | 0,_,_,_,_,_,x,_=>x.elim
  | d+1,p,t,w,h,g,x,wf=>by
    obtain ⟨op,n,q,s,A,c,ps,ks,rfl,rfl,hc,hK,hKs⟩:=x.open;obtain ⟨s1,s2,s3,s4,s5,s6⟩:=wf;have s1_:ks.length≤3:=s1;exact rx isb sm hIs d (fun p t w h=>mH isb sm hIs d p t w h) op n q s A c ps ks hc (by have:=hKs.len;omega) s1 s2 s3 s4 s5 s6 w h g hK hKs
theorem tz  (ok:ByteArray→Prop)(d:Nat)(ih:∀ (p:PTm) (t:Tm) (w:World) (h:Hp),G w h→TmH d h p t→WfT ok d t →  Calls Tryz.prog 47 #[dC p,iV 1001] w (Ret w h (fun v _=>v=iV ((min (bV d t) 1001:Nat):Int))))(op n:Int)(q:Rat)(s:ByteArray)(A:Option Addr)(c:Nat)(ps:List PTm)(ks:List Tm)(hc:ps.length≤c)(hlp:ps.length≤2)(hari:eg op=(ks.length:Nat))(hq0:op≠1→q=0)(hq:LQ 1 q)(hok:op=2→ok s)(hs0:op≠2→s=⟨#[]⟩)(hn0:op≠8→n=0)(hn1 : -12≤n)(hn2:n≤12)(hW:∀ i,i<ks.length→WfT ok d (ks.getD i bE))(w:World)(h:Hp)(g:G w h)(hK:SlO 9 cj aE h A ps)(hKs:Tms d h ps ks):CV 47 #[pW op n q s A ps.length c,iV 1001] w h (iV ((min (bV (d+1) (.mk op n q s ks)) 1001:Nat):Int)):=by
 have hs:=(((sS g).aS hK).add (K:=fun h_=>Tms d h_ ps ks) hKs);have hln:=(hs.f.1).len;refine go Tryz.func47 [(0,pW op n q s A ps.length c),(1,iV 1001)] rfl (aA (lA 2 46 (pG op n q s A ps.length c) hs (fun b1 w2 h3 hs=>lL hs [.v 4 (iV 0)] (ae (ab hs [.v 8 (qP b1 8),.o 9 (qS A ps.length c) 0 8 1,.v 10 (nV ps.length)] ?_)))));cases hb4:((ps.length:Int) == (0:Int))
 ·
  have phb4:=ag hb4;refine lB 11 hb4 (af (cK (ab hs [.v 5 (iV 0)] (ae (ab hs [.v 14 (qP b1 8),.o 15 (qS A ps.length c) 0 8 1,.v 16 (nV ps.length),.v 17 (iV 0)] (bc ?_))))));refine bJ _ (CG.loop (fun μ_ Γ w_=>∃ (k:Nat) (sm:Nat) (h_:Hp),μ_=ps.length-k∧Γ=[(1,iV 1001),(2,pB b1),(15,qS A ps.length c),(16,nV ps.length),(17,nV k),(5,nV sm)]∧SS w h w_ h_ [⟨b1,46,pG op n q s A ps.length c⟩] [] [fun h_=>Tms d h_ ps ks,fun h_=>SlO 9 cj aE h_ A ps]∧k≤ps.length∧sm=min (e7 (fun i=>bV d (ks.getD i bE)) k) 1001) _ ⟨0,0,h3,rfl,rfl,hs.to _ _,Nat.zero_le _,rfl⟩ ?_);rintro _ _ w5 ⟨k,sm,h6,hm7,rfl,hs,hk,hsm⟩;have hs1:(e7 (fun i=>bV d (ks.getD i bE)) (k+1))=(e7 (fun i=>bV d (ks.getD i bE)) k)+bV d (ks.getD k bE):=rfl;refine aA ?_;cases hb8:(decide ((k:Int)<(ps.length:Int)))
  ·
   have phb8:=oF hb8;refine lB 18 hb8 (ae (cF (CG.exit ?_)))
   show CG _ _ _ _ _ _ _ _
   refine cQ (ab hs [.v 33 (pB b1),.o 34 (iV op) 0 0 1] (bc (aA ?_)));cases hb9:((op:Int) == (11:Int))
   ·
    have phb9:=ag hb9;refine lB 36 hb9 (lL hs [.m 35 36] (af (aA ?_)));cases za:((op:Int) == (8:Int))
    ·
     have zc:=ag za;refine lB 40 za (lL hs [.m 39 40] (af (cK (ab hs [.m 46 5,.m 47 1] (lV 48 (iV (min (sm:Int) (1001:Int))) ?_ (hr:=aU (n:=(if (1001:Int)<(sm:Int) then (1001:Int) else (sm:Int))) kR (by simp only[dP])))))));refine lL hs [.m 4 48] (lN (kX ?_));have hkn:k=ks.length:=by omega
     have hw_:=jV (d:=d) (op:=op) (n:=n) (q:=q) (s:=s) (ks:=ks) oM;have hm_:=jS (s:=(e7 (fun i=>bV d (ks.getD i bE)) k)) (eM op n);rw[←hkn] at hw_
     rw[←hw_,←hsm] at hm_
     exact hs.ret [] (iV (min (sm:Int) (1001:Int))) (congrArg (Value.int .i64) (by rw[←hm_];unfold f6;first|(rw[if_pos oM];(repeat' split)<;>omega)|(rw[if_neg oM,if_pos oM,Nat.mul_comm];(repeat' split)<;>omega)|(rw[if_neg oM,if_neg oM];(repeat' split)<;>omega)))
    have zc:=eq_of_beq za;refine lB 40 za (lL hs [.m 39 40] (am (kQ (lL hs [.m 41 5,.v 42 (qP b1 1),.o 43 (iV n) 0 1 1] (ah 44 hs (AM n oM oM _ _ hs.g) (fun _ _ hs=>?_))))));have htm:bP n≤12∧1≤bP n:=by unfold bP;split<;>omega
    have hmb:sm*bP n≤1001*12:=Nat.mul_le_mul oM oM;refine lI 45 ((sm:Nat)*(bP n:Nat)) (lL hs [.m 5 45] (aJ (lL hs [.m 46 5,.m 47 1] (lV 48 (iV (min ((sm:Nat)*(bP n:Nat):Int) (1001:Int))) ?_ (hr:=aU (n:=(if (1001:Int)<((sm:Nat)*(bP n:Nat):Int) then (1001:Int) else ((sm:Nat)*(bP n:Nat):Int))) kR (by simp only[dP]))))));refine lL hs [.m 4 48] (lN (kX ?_));have hkn:k=ks.length:=by omega
    have hw_:=jV (d:=d) (op:=op) (n:=n) (q:=q) (s:=s) (ks:=ks) oM;have hm_:=jS (s:=(e7 (fun i=>bV d (ks.getD i bE)) k)) (eM op n);rw[←hkn] at hw_
    rw[←hw_,←hsm] at hm_
    exact hs.ret [] (iV (min ((sm:Nat)*(bP n:Nat):Int) (1001:Int))) (congrArg (Value.int .i64) (by rw[←hm_];unfold f6;first|(rw[if_pos oM];(repeat' split)<;>omega)|(rw[if_neg oM,if_pos oM,Nat.mul_comm];(repeat' split)<;>omega)|(rw[if_neg oM,if_neg oM];(repeat' split)<;>omega)))
   have phb9:=eq_of_beq hb9;refine lB 36 hb9 (lL hs [.m 35 36] (am (kQ (lL hs [.m 37 5] (lI 38 ((sm:Nat)*2) ?_)))));refine lL hs [.m 5 38] (aJ (lL hs [.m 46 5,.m 47 1] (lV 48 (iV (min ((sm:Nat)*2:Int) (1001:Int))) ?_ (hr:=aU (n:=(if (1001:Int)<((sm:Nat)*2:Int) then (1001:Int) else ((sm:Nat)*2:Int))) kR (by simp only[dP])))));refine lL hs [.m 4 48] (lN (kX ?_));have hkn:k=ks.length:=by omega
   have hw_:=jV (d:=d) (op:=op) (n:=n) (q:=q) (s:=s) (ks:=ks) oM;have hm_:=jS (s:=(e7 (fun i=>bV d (ks.getD i bE)) k)) (eM op n);rw[←hkn] at hw_
   rw[←hw_,←hsm] at hm_
   exact hs.ret [] (iV (min ((sm:Nat)*2:Int) (1001:Int))) (congrArg (Value.int .i64) (by rw[←hm_];unfold f6;first|(rw[if_pos oM];(repeat' split)<;>omega)|(rw[if_neg oM,if_pos oM,Nat.mul_comm];(repeat' split)<;>omega)|(rw[if_neg oM,if_neg oM];(repeat' split)<;>omega)))
  have phb8:=oT hb8;refine lB 18 hb8 (ae (cf (cK (cQ (kZ (aA (lX 19 A ps.length c 9 (k:Nat) k ((hs.f.2.1).ok oM) ?_)))))));refine lH 20 (pX (ps.getD k aE)) hs ((hs.f.2.1).el k oM) (lA 7 46 ([iV 0,iV 0,qF,uV 0,eS,uV 0,eS,eS,sZ]) hs (fun b13 _ _ hs=>lP 0 0 (pC (ps.getD k aE)) hs (fun _ hs=>aJ (lL hs [.m 21 5,.o 22 (pX (ps.getD k aE)) 0 0 9,.m 23 1] (ah 24 hs (ih (ps.getD k aE) (ks.getD k bE) _ _ hs.g ((hs.f.1).at_ k oM) (hW k oM)) (fun _ ze hs=>lI 25 ((sm:Nat)+((min (bV d (ks.getD k bE)) 1001:Nat):Int)) (lL hs [.m 26 1] (lV 27 (iV ((min (e7 (fun i=>bV d (ks.getD i bE)) (k+1)) 1001:Nat):Int)) ?_ (hr:=aU (n:=if (1001:Int)<((sm:Nat)+((min (bV d (ks.getD k bE)) 1001:Nat):Int)) then (1001:Int) else ((sm:Nat)+((min (bV d (ks.getD k bE)) 1001:Nat):Int))) kR (by split<;>omega))))))))));refine lL hs [.m 5 27] (aJ (lL hs [.m 28 5,.m 29 1] ?_));cases zb:((((min (e7 (fun i=>bV d (ks.getD i bE)) (k+1)) 1001:Nat):Int):Int) == (1001:Int))
  ·
   have zd:=ag zb;refine lB 30 zb (af (cK (kQ (bu 32 ((k:Nat)+1) (k+1) ?_))));refine lL hs [.m 17 32] (lD ?_);intro a_ ka;replace hs:=hs.drop 1 0;refine ⟨_,_,?_,⟨k+1,(min (e7 (fun i=>bV d (ks.getD i bE)) (k+1)) 1001),ze,rfl,rfl,hs.to _ _,oM,rfl⟩,ka.to _ kR⟩
   omega
  have zd:=eq_of_beq zb;exact lB 30 zb (am (ab hs [.m 31 1,.m 4 31] (ac hs [] (iV 1001) (congrArg (Value.int .i64) (by have h1_:=qr (fun i=>bV d (ks.getD i bE)) (show k+1≤ks.length by omega);have h2_:=n6 (d:=d) (op:=op) (n:=n) (q:=q) (s:=s) (ks:=ks) oM;omega)))))
 have phb4:=eq_of_beq hb4;exact lB 11 hb4 (am (ab hs [.m 12 1,.v 13 (iV 1),.m 4 13] (ac hs [] (iV 1) (congrArg (Value.int .i64) (by rw[rJ oM];first|rfl|omega)))))
theorem mN (ok:ByteArray→Prop):∀ (d:Nat) (p:PTm) (t:Tm) (w:World) (h:Hp),G w h→TmH d h p t→WfT ok d t →  Calls Tryz.prog 47 #[dC p,iV 1001] w (Ret w h (fun v _=>v=iV ((min (bV d t) 1001:Nat):Int)))
  | 0,_,_,_,_,_,x,_=>x.elim
  | d + 1,p,t,w,h,g,x,wf=>by
    obtain ⟨op,n,q,s,A,c,ps,ks,rfl,rfl,hc,hK,hKs⟩:=x.open;obtain ⟨w1,w2,w3,w4,w5,w6,w7,w8,w9⟩:=wf
    have hl2:ps.length≤2:=by
      have e1:eg op=ks.length:=w1;have:=aG op;have:=hKs.len
      omega
    exact tz ok d (fun p t w h=>mN ok d p t w h) op n q s A c ps ks hc hl2 w1 w2 w3 w4 w5 w6 w7 w8 w9 w h g hK hKs
structure PLt where
  s:ByteArray
  q:Rat
def bL:PLt:=⟨⟨#[]⟩,0⟩
def lb (p:PLt):List Value:=[.string p.s,.bool (ai p.q.num),.int .u64 (lo (aa p.q.num)),.string (hi (aa p.q.num)),.int .u64 (lo (qd p.q)),.string (hi (qd p.q))]
structure RLt where
  s:ByteArray
  neg:Bool
  zA:Option Addr
  zn:Nat
  zc:Nat
  dA:Option Addr
  dn:Nat
  dc:Nat
def RLt.t (r:RLt):RT:=(r.neg,.slice r.zA r.zn r.zc,.slice r.dA r.dn r.dc)
def vj:RLt:=⟨⟨#[]⟩,false,none,0,0,none,0,0⟩
def Ce (r:RLt):List Value:=[.string r.s,.bool r.neg,.slice r.zA r.zn r.zc,.slice r.dA r.dn r.dc]
structure RLs (h:Hp) (rs:List RLt) (ps:List PLt):Prop where
  len:rs.length=ps.length
  at_:∀ i,i<ps.length→(rs.getD i vj).s=(ps.getD i bL).s∧RZ h (rs.getD i vj).t (ps.getD i bL).q
theorem RLs.gw {h h':Hp}{rs:List RLt}{ps:List PLt}(x:RLs h rs ps)(u:Gw h h'):RLs h' rs ps:=⟨x.len,fun i hi=>⟨(x.at_ i hi).1,(x.at_ i hi).2.gw u⟩⟩
theorem RLs.nil {h:Hp}:RLs h [] []:=⟨rfl,fun i hi=>by simp at hi⟩
theorem RLs.snoc {h:Hp}{rs:List RLt}{ps:List PLt}{r:RLt}{p:PLt}(x:RLs h rs ps)(hs:r.s=p.s)(hz:RZ h r.t p.q):RLs h (rs++[r]) (ps++[p]):=by
 refine ⟨by simp[x.len],fun i hi=>?_⟩;rw[List.length_append,List.length_singleton] at hi
 rw[cp,cp,x.len]
 by_cases e:i<ps.length
 ·rw[if_pos e,if_pos e];exact x.at_ i e
 ·rw[if_neg e,if_neg e,if_pos oM,if_pos oM];exact ⟨hs,hz⟩
def nE:List PLt→ByteArray→Option Rat
  | [],_=>none
  | x::l,s=>if x.s=s then some x.q else nE l s
theorem tF {s:ByteArray}:∀ {l:List PLt} {k:Nat},(∀ i,i<k→(l.getD i bL).s≠s)→k<l.length→(l.getD k bL).s=s→nE l s=some (l.getD k bL).q
  | x::l,0,_,_,h=>if_pos h
  | x::l,k+1,h,hk,e=>by
    show (if x.s=s then _ else _)=_
    rw[if_neg (show ¬x.s=s from h 0 (Nat.succ_pos _))];exact tF (l:=l) (k:=k) (fun i hi=>h (i+1) oM) (by simpa using hk) e
theorem tL {s:ByteArray}:∀ {l:List PLt},(∀ i,i<l.length→(l.getD i bL).s≠s)→nE l s=none
  | [],_=>rfl
  | x::l,h=>by
    show (if x.s=s then _ else _)=_
    rw[if_neg (show ¬x.s=s from h 0 (Nat.succ_pos _))];exact tL (fun i hi=>h (i+1) (by simpa using hi))
theorem tm {s:ByteArray}{q:Rat}{B:Nat}:∀ {l:List PLt},(∀ i,LQ B (l.getD i bL).q)→nE l s=some q→LQ B q
  | x::l,h,e=>by
    unfold nE at e
    split at e
    · injection e with e;rw[←e];exact h 0
    · exact tm (fun i=>h (i+1)) e
def pM (op n:Int)(q:Rat)(e1 e2:Int)(a b:Rat):Int × Rat :=
  if e1≠0 then (e1,0) else if e2≠0 then (e2,0) else if n5 op n a b then (0,CO op n q a b) else (6,0)
def ba (L:List PLt):Nat→Tm→Int × Rat
  | 0,_=>(0,0)
  | d + 1,t =>
    if t.op=2 then (match nE L t.s with|some q=>(0,q)|none=>(11,0))
    else
      let x:=if 0<t.ks.length then ba L d (t.ks.getD 0 bE) else (0,0)
      let y:=if 1<t.ks.length then ba L d (t.ks.getD 1 bE) else (0,0)
      pM t.op t.n t.q x.1 y.1 x.2 y.2
theorem gT {L:List PLt}{d:Nat}{op n:Int}{q:Rat}{s:ByteArray}{ks:List Tm}{v:Rat}(h:op=2)(e:nE L s=some v):ba L (d+1) (.mk op n q s ks)=(0,v):=by
 show (if op=2 then (match nE L s with|some q=>((0:Int),q)|none=>(11,0)) else _)=_;rw[if_pos h,e]
theorem iF {L:List PLt}{d:Nat}{op n:Int}{q:Rat}{s:ByteArray}{ks:List Tm}(h:op=2)(e:nE L s=none):ba L (d+1) (.mk op n q s ks)=(11,0):=by
 show (if op=2 then (match nE L s with|some q=>((0:Int),q)|none=>(11,0)) else _)=_;rw[if_pos h,e]
theorem jT {L:List PLt}{d:Nat}{op n:Int}{q:Rat}{s:ByteArray}(h:op≠2):ba L (d+1) (.mk op n q s [])=pM op n q 0 0 0 0:=if_neg h
theorem iU {L:List PLt}{d:Nat}{op n:Int}{q:Rat}{s:ByteArray}{t1:Tm}(h:op≠2):ba L (d+1) (.mk op n q s [t1])=pM op n q (ba L d t1).1 0 (ba L d t1).2 0:=if_neg h
theorem g9 {L:List PLt}{d:Nat}{op n:Int}{q:Rat}{s:ByteArray}{t1 t2:Tm}(h:op≠2):ba L (d+1) (.mk op n q s [t1,t2])=pM op n q (ba L d t1).1 (ba L d t2).1 (ba L d t1).2 (ba L d t2).2:=if_neg h
section
variable {op n:Int} {q a b:Rat} {e1 e2:Int}
theorem Ag (h:e1≠0):pM op n q e1 e2 a b=(e1,0):=if_pos h
theorem CS (h1:e1=0)(h:e2≠0):pM op n q e1 e2 a b=(e2,0):=by unfold pM;rw[if_neg oM,if_pos h]
theorem n9 (h1:e1=0)(h2:e2=0)(h:n5 op n a b):pM op n q e1 e2 a b=(0,kA op n q a b):=by unfold pM kA;rw[if_neg oM,if_neg oM,if_pos h,if_pos h]
theorem sd (h1:e1=0)(h2:e2=0)(h:¬n5 op n a b):pM op n q e1 e2 a b=(6,0):=by unfold pM;rw[if_neg oM,if_neg oM,if_neg h]
end
theorem sL {a:Rat}:iP a 1=a:=by
 have h1:((1:Int):Rat)=1:=rfl
 show ((1:Int):Rat)*a=a
 rw[h1];grind
theorem xA {a:Rat}{K:Nat}{n:Int}(hK:1≤K)(h:LQ K a):LQ (bP n*(K+2)-2) (iP a n):=by
  unfold bP
  by_cases h1:n.natAbs≤1
  · rw[if_pos h1]
    have hn:n=0∨n=1∨n = -1:=by omega
    rcases hn with rfl|rfl|rfl
    · exact (LQ.lit (z:=1) kD).mono oM
    · rw[sL];exact h.mono oM
    · have e:iP a (-1)=a⁻¹:=by
        have h1:((1:Int):Rat)=1:=rfl
        show ((1:Int):Rat)/(((1:Int):Rat)*a)=a⁻¹
        rw[h1];rw[Rat.one_mul,Rat.div_def,Rat.one_mul]
      rw[e];exact h.inv.mono oM
  · rw[if_neg h1]
    have h2:=g6 h n.natAbs;have h3:n.natAbs*(K+2)=n.natAbs*K+n.natAbs*2:=Nat.mul_add _ _ _
    unfold iP
    split
    · exact h2.mono oM
    · exact ((LQ.lit (z:=1) kD).div h2).mono oM
theorem sJ {op n:Int}{q a b:Rat}{e1 e2:Int}{wa wb c:Nat}(hc:3≤c)(hA:1≤wa)(ha:LQ (c*wa-2) a)(hb:1≤wb→LQ (c*wb-2) b)(h2:eg op=2→1≤wb)(hq:LQ 1 q)(ho:3≤op∧op≤13) :
    LQ (c*(f6 op n*(wa+wb))-2) (pM op n q e1 e2 a b).2:=by
  obtain ⟨M,hM⟩:∃ M,M=f6 op n*(wa+wb):=⟨_,rfl⟩;have w1:=eM op n;have hw:wa+wb≤f6 op n*(wa+wb):=Nat.le_mul_of_pos_left _ w1;rw[←hM] at hw ⊢
  have h0:LQ 1 (0:Rat):=LQ.lit (z:=0) kD;have hm:=hA;have m1:c*(wa+wb)≤c*M:=Nat.mul_le_mul_left _ hw;have m2:c*(wa+wb)=c*wa+c*wb:=Nat.mul_add _ _ _;have m3:c≤c*wa:=Nat.le_mul_of_pos_right _ hA;have hz:LQ (c*M-2) (0:Rat):=h0.mono oM
  suffices h:LQ (c*M-2) (CO op n q a b) by
    unfold pM
    split
    · exact hz
    · split
      · exact hz
      · split
        · exact h
        · exact hz
  unfold CO
  split
  · exact hq.mono oM
  split
  · rename_i h;have w2:=h2 (by rw[h];rfl);have m5:c≤c*wb:=Nat.le_mul_of_pos_right _ w2;exact (ha.add (hb w2)).mono oM
  split
  · rename_i h;have w2:=h2 (by rw[h];rfl);have m5:c≤c*wb:=Nat.le_mul_of_pos_right _ w2;exact (ha.sub (hb w2)).mono oM
  split
  · rename_i h;have w2:=h2 (by rw[h];rfl);have m5:c≤c*wb:=Nat.le_mul_of_pos_right _ w2;exact (ha.mul (hb w2)).mono oM
  split
  · rename_i h;have w2:=h2 (by rw[h];rfl);have m5:c≤c*wb:=Nat.le_mul_of_pos_right _ w2;exact (ha.div (hb w2)).mono oM
  split
  · exact ha.neg.mono oM
  split
  · rename_i h8
    have e:f6 op n=bP n:=by unfold f6;rw[if_neg oM,if_pos h8]
    have h2:=xA (n:=n) oM ha
    have e2:bP n*(c*wa-2+2)≤c*(bP n*(wa+wb)):=by
      rw[show c*wa-2+2=c*wa by omega,Nat.mul_left_comm];exact Nat.mul_le_mul_left _ (Nat.mul_le_mul_left _ (Nat.le_add_right _ _))
    rw[e] at hM
    rw[←hM] at e2
    exact h2.mono (Nat.sub_le_sub_right e2 2)
  split
  · exact ha.abs.mono oM
  split
  · exact (LQ.maxR ha (h0.mono (by omega:1≤c*wa-2))).mono oM
  split
  · rename_i h11
    have e:f6 op n=2:=by unfold f6;rw[if_pos h11]
    rw[e] at hM
    have m4:c*M=2*(c*(wa+wb)):=by rw[hM,Nat.mul_left_comm]
    exact (ha.div (ha.abs.add (LQ.lit (z:=1) kD))).mono oM
  split
  · rename_i h;have w2:=h2 (by rw[h];rfl);have m5:c≤c*wb:=Nat.le_mul_of_pos_right _ w2
    unfold maxR;split
    · exact (hb w2).mono oM
    · exact ha.mono oM
  · have w2 := h2 (by have:op=13:=by omega
                      rw[this];rfl)
    have m5:c≤c*wb:=Nat.le_mul_of_pos_right _ w2
    unfold oB;split
    · exact (hb w2).mono oM
    · exact ha.mono oM
theorem ir {ks:List Tm}{op:Int}(h:eg op=ks.length):ks=[]∨(∃ t,ks=[t])∨∃ t u,ks=[t,u]:=by
 have:=aG op
 rcases ks with _|⟨t,_|⟨u,_|⟨v,l⟩⟩⟩
 ·exact .inl rfl
 ·exact .inr (.inl ⟨t,rfl⟩)
 ·exact .inr (.inr ⟨t,u,rfl⟩)
 ·simp only[List.length_cons] at h;omega
theorem lm {ok:ByteArray→Prop}{L:List PLt}{c:Nat}(hc3:3≤c)(hL:∀ i,LQ (c-2) (L.getD i bL).q):∀ {d:Nat} {t:Tm},WfT ok d t→1≤bV d t∧LQ (c*bV d t-2) (ba L d t).2
  | d + 1,.mk op n q s ks,⟨h1,h2,h3,h4,h5,h6,h7,h8,h9⟩=>by
    have h0:LQ 1 (0:Rat):=LQ.lit (z:=0) kD;have hc:=aG op;replace h1:eg op=(ks.length:Nat):=h1;replace h3:LQ 1 q:=h3
    rcases ir h1 with rfl|⟨t,rfl⟩|⟨t,u,rfl⟩
    · have e:bV (d+1) (.mk op n q s [])=1:=rJ rfl
      rw[e,Nat.mul_one];refine ⟨Nat.le_refl _,?_⟩
      by_cases o2:op=2
      · cases e2:nE L s with
        | none=>rw[iF o2 e2];exact h0.mono oM
        | some v=>rw[gT o2 e2];exact (tm hL e2).mono oM
      · have o1:op=1:=by simp only[List.length_nil] at h1;omega
        rw[jT o2];unfold pM;rw[if_neg kD,if_neg kD]
        split
        · show LQ _ (CO op n q 0 0);rw[o1];exact h3.mono oM
        · exact h0.mono oM
    · have i1:=lm hc3 hL (h9 0 (Nat.succ_pos _))
      obtain ⟨i1,j1⟩:=i1;replace i1:1≤bV d t:=i1;replace j1:LQ (c*bV d t-2) (ba L d t).2:=j1
      simp only[List.length_cons,List.length_nil] at h1
      have e:bV (d+1) (.mk op n q s [t])=f6 op n*(bV d t+0):=by rw[jV (show [t].length≠0 from Nat.succ_ne_zero _)];show _*(0+bV d t)=_;rw[Nat.zero_add,Nat.add_zero]
      rw[e,iU oM];have w1:=eM op n;exact ⟨Nat.le_trans i1 (Nat.le_mul_of_pos_left _ w1),sJ hc3 i1 j1 (fun h=>absurd h kD) oM h3 oM⟩
    · have i1:=lm hc3 hL (h9 0 (Nat.succ_pos _))
      have i2:=lm hc3 hL (h9 1 (by show 1<2;decide));obtain ⟨i1,j1⟩:=i1;obtain ⟨i2,j2⟩:=i2;replace i1:1≤bV d t:=i1;replace j1:LQ (c*bV d t-2) (ba L d t).2:=j1;replace i2:1≤bV d u:=i2;replace j2:LQ (c*bV d u-2) (ba L d u).2:=j2
      simp only[List.length_cons,List.length_nil] at h1
      have e:bV (d+1) (.mk op n q s [t,u])=f6 op n*(bV d t+bV d u):=by rw[jV (show [t,u].length≠0 from Nat.succ_ne_zero _)];show _*(0+bV d t+bV d u)=_;rw[Nat.zero_add]
      rw[e,g9 oM];have w1:=eM op n;exact ⟨Nat.le_trans oM (Nat.le_mul_of_pos_left _ w1),sJ hc3 i1 j1 (fun _=>j2) (fun _=>i2) h3 oM⟩
theorem uj {d m:Nat}{op n:Int}{q:Rat}{s:ByteArray}{t1:Tm}(h:bV (d+1) (.mk op n q s [t1])≤m):bV d t1≤m:=by
 have h2:=n6 (d:=d) (op:=op) (n:=n) (q:=q) (s:=s) (ks:=[t1]) (Nat.succ_ne_zero _);have e:e7 (fun i=>bV d (([t1]:List Tm).getD i bE)) ([t1]:List Tm).length=0+bV d t1:=rfl
 omega
theorem rO {d m:Nat}{op n:Int}{q:Rat}{s:ByteArray}{t1 t2:Tm}(h:bV (d+1) (.mk op n q s [t1,t2])≤m):bV d t1≤m∧bV d t2≤m:=by
 have h2:=n6 (d:=d) (op:=op) (n:=n) (q:=q) (s:=s) (ks:=[t1,t2]) (Nat.succ_ne_zero _);have e:e7 (fun i=>bV d (([t1,t2]:List Tm).getD i bE)) ([t1,t2]:List Tm).length=0+bV d t1+bV d t2:=rfl
 omega
theorem wc {α:Type}:∀ {l:List α},l.length=2→∃ a b,l=[a,b]
 | [a,b],_=>⟨a,b,rfl⟩
 | [],h=>by simp only[List.length_nil] at h;omega
 | [_],h=>by simp only[List.length_cons,List.length_nil] at h;omega
 | _::_::_::_,h=>by simp only[List.length_cons] at h;omega
theorem kV {ok:ByteArray→Prop}{L:List PLt}{c:Nat}(hc3:3≤c)(hL:∀ i,LQ (c-2) (L.getD i bL).q){d:Nat}{t:Tm}(h:WfT ok d t)(hw:bV d t≤1000):LQ (c*1000) (ba L d t).2 :=
 (lm hc3 hL h).2.mono (Nat.le_trans (Nat.sub_le _ _) (Nat.mul_le_mul_left _ hw))
def EvR (ok:ByteArray→Prop)(L:List PLt)(d:Nat)(t:Tm)(e:Int)(x:Rat):Prop :=
  (WfT ok d t∧bV d t≤1000∧e=(ba L d t).1∧x=(ba L d t).2)∨(¬(WfT ok d t∧bV d t≤1000)∧e=1∧x=0)
theorem EvR.lq {ok:ByteArray→Prop}{L:List PLt}{c:Nat}(hc3:3≤c){d:Nat}{t:Tm}{e:Int}{x:Rat}(hL:∀ i,LQ (c-2) (L.getD i bL).q)(a:EvR ok L d t e x):LQ (c*1000) x:=by
 rcases a with ⟨a1,a2,rfl,rfl⟩|⟨a1,rfl,rfl⟩
 ·exact kV hc3 hL a1 a2
 ·exact (LQ.lit (z:=0) kD).mono oM
theorem fY {ok:ByteArray→Prop}{d:Nat}{t:Tm}{e:Int}(h:(WfT ok d t∧e=(if 1000<bV d t then 18 else 0))∨(¬WfT ok d t∧e=2))(h0:e=0):WfT ok d t∧bV d t≤1000:=by
 rcases h with ⟨h1,h2⟩|⟨h1,h2⟩
 ·refine ⟨h1,?_⟩;split at h2<;>omega
 ·omega
theorem Cc {ok:ByteArray→Prop}{d:Nat}{t:Tm}{e:Int}(h:(WfT ok d t∧e=(if 1000<bV d t then 18 else 0))∨(¬WfT ok d t∧e=2))(h0:e≠0):¬(WfT ok d t∧bV d t≤1000):=by
 rcases h with ⟨h1,h2⟩|⟨h1,h2⟩
 ·intro h3;rw[if_neg oM] at h2;exact h0 h2
 ·exact fun h3=>h1 h3.1
section
variable {sm:Bool} {inp:Int} {l:List Stp} {os:List Int} {at_:List Rat}
end
def tr (nm:Int→ByteArray)(l:List Stp)(i:Nat):Tm:=CN nm l (l.length+1) i
structure DpS (dp:Nat→Nat) (l:List Stp):Prop where
  one:∀ k,k<l.length→1≤dp k
  le:∀ k,k<l.length→dp k≤20
  a:∀ k,k<l.length→0<eg (l.getD k dU).op→dp (l.getD k dU).a.toNat<dp k
  b:∀ k,k<l.length→1<eg (l.getD k dU).op→dp (l.getD k dU).b.toNat<dp k
section
variable {nm:Int→ByteArray} {l:List Stp} {inp:Int} {dp:Nat→Nat}
end
section
variable {nm:Int→ByteArray} {l:List Stp} {inp:Int} {h:Hp} {k:Nat} {dp:Nat→Nat}
variable (hdp:DpS dp l) (hF:∀ k,k<l.length→gB inp k (l.getD k dU)) (hq0:∀ k,k<l.length→(l.getD k dU).op≠1→(l.getD k dU).q=0)
include hdp hF hq0
end
section
variable {dp:Nat→Nat} {inp:Int} {l:List Stp} {os:List Int} {out:Int} {nn:Nat} {e0:Int} {nm:Int→ByteArray}
end
theorem mB  (isb:ByteArray→Bool)(sm:ByteArray→Prop)(hIs:∀ s,sm s→∀ (w:World) (h:Hp),G w h→Calls Tryz.prog 74 #[.string s] w (Ret w h (fun v _=>∃ b,v=.bool b∧b=isb s)))(d:Nat)(p:PTm)(t:Tm)(hd:d≤24)(w:World)(h:Hp)(g:G w h)(hT:TmH d h p t)(hS:SmT sm d t):CR 20 #[pX p] w h (fun v _=>∃ e:Int,v=iV e∧((WfT (fun s=>isb s=true) d t∧e=(if 1000<bV d t then 18 else 0))∨(¬WfT (fun s=>isb s=true) d t∧e=2))):=by
 have hs:=((sS g).add (K:=fun h_=>TmH d h_ p t) hT);refine go Tryz.func20 [(0,pX p)] rfl (aA (lA 1 46 (pC p) hs (fun b1 w2 h3 hs=>lL hs [.v 2 (iV 0)] (ae (ab hs [.o 3 (pX p) 0 0 9] (ah 4 hs (o6 sm d p t 24 _ _ hs.g hs.f.1 hS oM oM) (fun w4 h5 hs=>af (cK (cQ (ab hs [.o 5 (pX p) 0 0 9] (lC 6 hs (mH isb sm hIs d p t _ _ hs.g hs.f.1 hS) ?_)))))))))));rintro _ w6 h7 hs ⟨bf,rfl,hbf⟩;cases hb8:(bf)
 ·
  exact lL hs [.v 7 qT] (am (ab hs [.v 2 (iV 2)] (ac hs [] (iV 2) (⟨_,rfl,.inr ⟨fun h_=>Bool.noConfusion ((hbf.2 h_).symm.trans aM),rfl⟩⟩))))
 refine lL hs [.v 7 qF] (af (cK (cQ (ab hs [.o 8 (pX p) 0 0 9] (ah 9 hs (mN (fun s=>isb s=true) d p t _ _ hs.g hs.f.1 (hbf.1 aM)) (fun w9 _ hs=>?_))))));cases za:(decide ((1000:Int)<(((min (bV d t) 1001:Nat):Int):Int)))
 ·
  have zb:=oF za;exact lB 10 za (af (cK (ab hs [.v 2 (iV 0)] (ac hs [] (iV 0) (⟨_,rfl,.inl ⟨hbf.1 aM,by split<;>omega⟩⟩)))))
 have zb:=oT za;exact lB 10 za (am (ab hs [.v 2 (iV 18)] (ac hs [] (iV 18) (⟨_,rfl,.inl ⟨hbf.1 aM,by split<;>omega⟩⟩))))
theorem oJ (isb:ByteArray→Bool)(sm:ByteArray→Prop)(hIs:∀ s,sm s→∀ (w:World) (h:Hp),G w h→Calls Tryz.prog 74 #[.string s] w (Ret w h (fun v _=>∃ b,v=.bool b∧b=isb s)))(hsm:∀ s,isb s=true→sm s)(h0:sm ⟨#[]⟩)(d:Nat)(p:PTm)(t:Tm)(hd:d≤24)(w:World)(h:Hp)(g:G w h)(hT:TmH d h p t)(hW:WfT (fun s=>isb s=true) d t):Calls Tryz.prog 20 #[dC p] w (Ret w h (fun v _=>v=iV (if 1000<bV d t then 18 else 0))) :=
 (mB isb sm hIs d p t hd w h g hT (hW.sm hsm h0)).mono fun e w' ⟨v,h',e1,u,e2,e3,e4⟩=>⟨v,h',e1,u,by
  rcases e4 with ⟨_,e4⟩|⟨e4,_⟩
  ·rw[e3,e4]
  ·exact absurd hW e4⟩
theorem wg (a:Rat)(n:Int)(K:Nat)(hK:14*K+20≤100000000)(ha:LQ K a)(hn : -13≤n∧n≤13)(hs:0≤n)(w:World)(h:Hp)(g:G w h)(tb:Tab h):CV 104 #[qv a,iV n] w h (.tuple #[qv (iP a n),.bool true]):=by
 have hs:=((sS g).aB tb);obtain ⟨m,hm⟩:∃ m:Nat,m=n.natAbs:=⟨_,rfl⟩;have hm13:m≤13:=by omega
 refine go Tryz.func104 [(0,qv a),(1,iV n)] rfl (aA (lA 2 43 (qc a) hs (fun b1 w2 h3 hs=>lA 4 43 ([qF,uV 0,eS,uV 0,eS]) hs (fun b4 w5 h6 hs=>lL hs [.v 5 qF] (aJ (ah 7 hs (xX 1 oM oM _ _ hs.g) (fun w7 h8 hs=>lA 6 43 ([qF,uV 0,eS,uV 0,eS]) hs (fun b9 _ zd hs=>lP 0 0 (qc ((1:Int):Rat)) hs (fun _ hs=>ae (ab hs [.m 8 1,.m 9 1] (lI 10 (0-n) ?_)))))))))));refine lV 11 (iV (max (n:Int) (0-n:Int))) ?_ (hr:=aU (n:=(if (0-n:Int)>(n:Int) then (0-n:Int) else (n:Int))) kR (by simp only[pP]));refine lL hs [.v 12 (iV 0)] (bc ?_);refine bJ _ (CG.loop (fun μ_ Γ w_=>∃ (k:Nat) (h_:Hp),μ_=m-k∧Γ=[(1,iV n),(2,pB b1),(4,pB b4),(5,qF),(6,pB b9),(11,iV (max (n:Int) (0-n:Int))),(12,nV k)]∧SS w h w_ h_ [⟨b9,43,qc (dw a k)⟩,⟨b4,43,[qF,uV 0,eS,uV 0,eS]⟩,⟨b1,43,qc a⟩] [] [fun h_=>Tab h_]∧k≤m) _ ⟨0,zd,rfl,rfl,hs.to _ _,Nat.zero_le _⟩ ?_);rintro _ _ _ ⟨k,_,hm15,rfl,hs,hk⟩;have hkK:k*K≤13*K:=Nat.mul_le_mul_right _ oM;have hpk:=g6 ha k;refine aA ?_;cases za:(decide ((k:Int)<(max (n:Int) (0-n:Int):Int)))
 ·
  have zb:=oF za;refine lB 13 za (ae (cF (CG.exit ?_)))
  show CG _ _ _ _ _ _ _ _
  refine cQ (ab hs [.m 18 1] ?_);have ⟨zc,phb17⟩:=dT (p:=(0:Int)≤(n:Int)) oM;exact lB 19 zc (am (ab hs [.o 20 (qv (dw a k)) 0 0 5] (lP 1 0 (qc (dw a k)) hs (fun _ hs=>lL hs [.v 5 qT] (ac hs [(1,0,5)] (.tuple #[qv (dw a k),qT]) (by unfold iP;rw[if_pos oM,show n.natAbs=k by omega]))))))
 have zb:=oT za;refine lB 13 za (ae (cf (cK (cQ (kZ (kQ (lL hs [.o 14 (qv (dw a k)) 0 0 5,.o 15 (qv a) 2 0 5] ?_)))))));have hq19:=LQ.mul hpk ha;refine ah 16 hs (rq (dw a k) a (LQ.mono hpk oM) (LQ.mono ha oM) _ _ hs.g hs.f.1) (fun _ ze hs=>lP 0 0 (qc ((dw a k)*a)) hs (fun _ hs=>lN (kQ (bu 17 ((k:Nat)+1) (k+1) ?_))));refine lL hs [.m 12 17] (lD ?_);intro a_ ka;refine ⟨_,_,?_,⟨k+1,ze,rfl,rfl,hs.to _ _,oM⟩,ka.to _ kR⟩
 omega
theorem vu (a:Rat)(n:Int)(K:Nat)(hK:14*K+20≤100000000)(ha:LQ K a)(hn : -13≤n∧n≤13)(hs:n<0)(ha0:a≠0)(w:World)(h:Hp)(g:G w h)(tb:Tab h):CV 104 #[qv a,iV n] w h (.tuple #[qv (iP a n),.bool true]):=by
 have hs:=((sS g).aB tb);obtain ⟨m,hm⟩:∃ m:Nat,m=n.natAbs:=⟨_,rfl⟩;have hm13:m≤13:=by omega
 refine go Tryz.func104 [(0,qv a),(1,iV n)] rfl (aA (lA 2 43 (qc a) hs (fun b1 w2 h3 hs=>lA 4 43 ([qF,uV 0,eS,uV 0,eS]) hs (fun b4 w5 h6 hs=>lL hs [.v 5 qF] (aJ (ah 7 hs (xX 1 oM oM _ _ hs.g) (fun w7 h8 hs=>lA 6 43 ([qF,uV 0,eS,uV 0,eS]) hs (fun b9 _ zd hs=>lP 0 0 (qc ((1:Int):Rat)) hs (fun _ hs=>ae (ab hs [.m 8 1,.m 9 1] (lI 10 (0-n) ?_)))))))))));refine lV 11 (iV (max (n:Int) (0-n:Int))) ?_ (hr:=aU (n:=(if (0-n:Int)>(n:Int) then (0-n:Int) else (n:Int))) kR (by simp only[pP]));refine lL hs [.v 12 (iV 0)] (bc ?_);refine bJ _ (CG.loop (fun μ_ Γ w_=>∃ (k:Nat) (h_:Hp),μ_=m-k∧Γ=[(1,iV n),(2,pB b1),(4,pB b4),(5,qF),(6,pB b9),(11,iV (max (n:Int) (0-n:Int))),(12,nV k)]∧SS w h w_ h_ [⟨b9,43,qc (dw a k)⟩,⟨b4,43,[qF,uV 0,eS,uV 0,eS]⟩,⟨b1,43,qc a⟩] [] [fun h_=>Tab h_]∧k≤m) _ ⟨0,zd,rfl,rfl,hs.to _ _,Nat.zero_le _⟩ ?_);rintro _ _ _ ⟨k,_,hm15,rfl,hs,hk⟩;have hkK:k*K≤13*K:=Nat.mul_le_mul_right _ oM;have hpk:=g6 ha k;refine aA ?_;cases za:(decide ((k:Int)<(max (n:Int) (0-n:Int):Int)))
 ·
  have zb:=oF za;refine lB 13 za (ae (cF (CG.exit ?_)))
  show CG _ _ _ _ _ _ _ _
  refine cQ (ab hs [.m 18 1] ?_);have ⟨zc,phb17⟩:=dF (p:=(0:Int)≤(n:Int)) oM;refine lB 19 zc (af (cK (cQ (cR 5 [] mixed hs ar ?_))));refine eO 1 22 [(0,0,5)] (qv (dw a k)) hs (aq 0 21 hs (fun _ _ hs=>xX 1 oM oM _ _ hs.g) (fun _ _ hs=>?_));have hq20:=LQ.div (LQ.lit (z:=1) kD) hpk;exact aq 2 23 hs (fun _ _ hs=>rQ ((1:Int):Rat) (dw a k) (LQ.mono (LQ.lit (z:=1) kD) oM) (LQ.mono hpk oM) (ru (oP ha0 k)) _ _ hs.g hs.f.1) (fun _ _ hs=>eV 3 24 (qv (((1:Int):Rat)/(dw a k))) (eV 4 25 qT (cg hs (fun _ _ hs=>tP 5 1 0 (qc (((1:Int):Rat)/(dw a k))) hs (fun _ hs=>tV 6 5 qT (tN (kX (hs.ret [(1,0,5)] (.tuple #[qv (((1:Int):Rat)/(dw a k)),qT]) (by unfold iP;rw[if_neg oM,show n.natAbs=k by omega])))))))))
 have zb:=oT za;refine lB 13 za (ae (cf (cK (cQ (kZ (kQ (lL hs [.o 14 (qv (dw a k)) 0 0 5,.o 15 (qv a) 2 0 5] ?_)))))));have hq26:=LQ.mul hpk ha;refine ah 16 hs (rq (dw a k) a (LQ.mono hpk oM) (LQ.mono ha oM) _ _ hs.g hs.f.1) (fun _ ze hs=>lP 0 0 (qc ((dw a k)*a)) hs (fun _ hs=>lN (kQ (bu 17 ((k:Nat)+1) (k+1) ?_))));refine lL hs [.m 12 17] (lD ?_);intro a_ ka;refine ⟨_,_,?_,⟨k+1,ze,rfl,rfl,hs.to _ _,oM⟩,ka.to _ kR⟩
 omega
theorem xe (a:Rat)(n:Int)(K:Nat)(hK:14*K+20≤100000000)(ha:LQ K a)(hn : -13≤n∧n≤13)(hs:n<0)(ha0:a=0)(w:World)(h:Hp)(g:G w h)(tb:Tab h):CV 104 #[qv a,iV n] w h (.tuple #[qv 0,.bool false]):=by
 have hs:=((sS g).aB tb);obtain ⟨m,hm⟩:∃ m:Nat,m=n.natAbs:=⟨_,rfl⟩;have hm13:m≤13:=by omega
 refine go Tryz.func104 [(0,qv a),(1,iV n)] rfl (aA (lA 2 43 (qc a) hs (fun b1 w2 h3 hs=>lA 4 43 ([qF,uV 0,eS,uV 0,eS]) hs (fun b4 w5 h6 hs=>lL hs [.v 5 qF] (aJ (ah 7 hs (xX 1 oM oM _ _ hs.g) (fun w7 h8 hs=>lA 6 43 ([qF,uV 0,eS,uV 0,eS]) hs (fun b9 _ zd hs=>lP 0 0 (qc ((1:Int):Rat)) hs (fun _ hs=>ae (ab hs [.m 8 1,.m 9 1] (lI 10 (0-n) ?_)))))))))));refine lV 11 (iV (max (n:Int) (0-n:Int))) ?_ (hr:=aU (n:=(if (0-n:Int)>(n:Int) then (0-n:Int) else (n:Int))) kR (by simp only[pP]));refine lL hs [.v 12 (iV 0)] (bc ?_);refine bJ _ (CG.loop (fun μ_ Γ w_=>∃ (k:Nat) (h_:Hp),μ_=m-k∧Γ=[(1,iV n),(2,pB b1),(4,pB b4),(5,qF),(6,pB b9),(11,iV (max (n:Int) (0-n:Int))),(12,nV k)]∧SS w h w_ h_ [⟨b9,43,qc (dw a k)⟩,⟨b4,43,[qF,uV 0,eS,uV 0,eS]⟩,⟨b1,43,qc a⟩] [] [fun h_=>Tab h_]∧k≤m) _ ⟨0,zd,rfl,rfl,hs.to _ _,Nat.zero_le _⟩ ?_);rintro _ _ _ ⟨k,_,hm15,rfl,hs,hk⟩;have hkK:k*K≤13*K:=Nat.mul_le_mul_right _ oM;have hpk:=g6 ha k;refine aA ?_;cases za:(decide ((k:Int)<(max (n:Int) (0-n:Int):Int)))
 ·
  have zb:=oF za;refine lB 13 za (ae (cF (CG.exit ?_)))
  show CG _ _ _ _ _ _ _ _
  refine cQ (ab hs [.m 18 1] ?_);have ⟨zc,phb17⟩:=dF (p:=(0:Int)≤(n:Int)) oM;refine lB 19 zc (af (cK (cQ (cR 5 [] mixed hs ar ?_))));exact eO 1 22 [(0,0,5)] (qv (dw a k)) hs (aq 0 21 hs (fun _ _ hs=>xX 1 oM oM _ _ hs.g) (fun _ _ hs=>aq 2 23 hs (fun _ _ hs=>Ap ((1:Int):Rat) (dw a k) (by rw[ha0];exact qt oM) _ _ hs.g) (fun _ _ hs=>eV 3 24 (qv 0) (eV 4 25 qF (cg hs (fun _ _ hs=>tP 5 1 0 (qc 0) hs (fun _ hs=>tV 6 5 qF (tN (kX (hs.ret [(1,0,5)] (.tuple #[qv 0,qF]) rfl))))))))))
 have zb:=oT za;refine lB 13 za (ae (cf (cK (cQ (kZ (kQ (lL hs [.o 14 (qv (dw a k)) 0 0 5,.o 15 (qv a) 2 0 5] ?_)))))));have hq25:=LQ.mul hpk ha;refine ah 16 hs (rq (dw a k) a (LQ.mono hpk oM) (LQ.mono ha oM) _ _ hs.g hs.f.1) (fun _ ze hs=>lP 0 0 (qc ((dw a k)*a)) hs (fun _ hs=>lN (kQ (bu 17 ((k:Nat)+1) (k+1) ?_))));refine lL hs [.m 12 17] (lD ?_);intro a_ ka;refine ⟨_,_,?_,⟨k+1,ze,rfl,rfl,hs.to _ _,oM⟩,ka.to _ kR⟩
 omega
theorem Cq (a:Rat)(n:Int)(K:Nat)(hK:14*K+20≤100000000)(ha:LQ K a)(hn : -13≤n∧n≤13)(ho:n<0→a≠0)(w:World)(h:Hp)(g:G w h)(tb:Tab h):CV 104 #[qv a,iV n] w h (.tuple #[qv (iP a n),.bool true]):=by
 by_cases hs:0≤n
 ·exact wg a n K hK ha hn hs w h g tb
 ·exact vu a n K hK ha hn oM (ho oM) w h g tb
theorem xg (s:PTm)(a b:Rat)(K:Nat)(hK:14*K+20≤100000000)(ha:LQ K a)(hb:LQ K b)(hq:LQ 1 s.q)(hK1:1≤K)(hop:1≤s.op∧s.op≤13∧s.op≠2)(hn:s.op=8 → -12≤s.n∧s.n≤12)(hok:n5 s.op s.n a b)(w:World)(h:Hp)(g:G w h)(tb:Tab h):CV 61 #[pX s,qv a,qv b] w h (.tuple #[qv (CO s.op s.n s.q a b),.bool true]):=by
 have hs:=((sS g).aB tb);refine go Tryz.func61 [(0,pX s),(1,qv a),(2,qv b)] rfl (aA (lA 3 46 (pC s) hs (fun b1 w2 h3 hs=>lA 4 43 (qc a) hs (fun b4 w5 h6 hs=>lA 5 43 (qc b) hs (fun b7 w8 h9 hs=>lA 6 43 ([qF,uV 0,eS,uV 0,eS]) hs (fun b10 _ _ hs=>lL hs [.v 7 qF] (ae (ab hs [.v 8 (pB b1),.o 9 (iV s.op) 3 0 1] (bc (aA ?_))))))))));cases za:((s.op:Int) == (1:Int))
 ·
  have zp:=ag za;refine lB 11 za (lL hs [.m 10 11] (af (aA ?_)));cases zb:((s.op:Int) == (3:Int))
  ·
   have zq:=ag zb;refine lB 15 zb (lL hs [.m 14 15] (af (aA ?_)));cases zc:((s.op:Int) == (4:Int))
   ·
    have zr:=ag zc;refine lB 20 zc (lL hs [.m 19 20] (af (aA ?_)));cases zd:((s.op:Int) == (5:Int))
    ·
     have zs:=ag zd;refine lB 25 zd (lL hs [.m 24 25] (af (aA ?_)));cases ze:((s.op:Int) == (6:Int))
     ·
      have zt:=ag ze;refine lB 30 ze (lL hs [.m 29 30] (af (aA ?_)));cases zf:((s.op:Int) == (7:Int))
      ·
       have zu:=ag zf;refine lB 37 zf (lL hs [.m 36 37] (af (aA ?_)));cases zg:((s.op:Int) == (8:Int))
       ·
        have zv:=ag zg;refine lB 41 zg (lL hs [.m 40 41] (af (aA ?_)));cases zi:((s.op:Int) == (9:Int))
        ·
         have zw:=ag zi;refine lB 49 zi (lL hs [.m 48 49] (af (aA ?_)));cases zj:((s.op:Int) == (10:Int))
         ·
          have zx:=ag zj;refine lB 53 zj (lL hs [.m 52 53] (af (aA ?_)));cases zk:((s.op:Int) == (11:Int))
          ·
           have zA:=ag zk;refine lB 58 zk (lL hs [.m 57 58] (af (aA ?_)));cases zl:((s.op:Int) == (12:Int))
           ·
            have zB:=ag zl;refine lB 68 zl (lL hs [.m 67 68] (af (aA ?_)));cases zm:((s.op:Int) == (13:Int))
            ·
             have zD:=ag zm;refine lB 73 zm (lL hs [.m 72 73] (af (cK (ab hs [.v 77 (.agg #[qF,uV 0,eS,uV 0,eS])] (lP 0 0 ([qF,uV 0,eS,uV 0,eS]) hs (fun _ hs=>lL hs [.v 7 qF] (lN (kX ?_))))))))
             exfalso;omega
            have zD:=eq_of_beq zm;exact lB 73 zm (lL hs [.m 72 73] (am (ab hs [.o 74 (qv a) 2 0 5,.o 75 (qv b) 1 0 5] (ah 76 hs (ED a b (LQ.mono ha oM) (LQ.mono hb oM) _ _ hs.g) (fun _ _ hs=>lP 0 0 (qc (oB a b)) hs (fun _ hs=>lL hs [.v 7 qT] (ac hs [(0,0,5)] (.tuple #[qv (oB a b),qT]) (by rw[show s.op=13 by omega];rfl))))))))
           have zB:=eq_of_beq zl;exact lB 68 zl (lL hs [.m 67 68] (am (ab hs [.o 69 (qv a) 2 0 5,.o 70 (qv b) 1 0 5] (ah 71 hs (DC a b (LQ.mono ha oM) (LQ.mono hb oM) _ _ hs.g) (fun _ _ hs=>lP 0 0 (qc (maxR a b)) hs (fun _ hs=>lL hs [.v 7 qT] (ac hs [(0,0,5)] (.tuple #[qv (maxR a b),qT]) (by rw[show s.op=12 by omega];rfl))))))))
          have zA:=eq_of_beq zk;refine lB 58 zk (lL hs [.m 57 58] (am (cQ (cR 8 [] mixed hs ar ?_))));refine eO 0 59 [(2,0,5)] (qv a) hs (eO 1 60 [(2,0,5)] (qv a) hs ?_);have zn:LQ (K) (eF a):=LQ.abs ha;refine aq 2 61 hs (fun _ _ hs=>DT a (LQ.mono ha oM) _ _ hs.g) (fun _ _ hs=>aq 3 62 hs (fun _ _ hs=>xX 1 oM oM _ _ hs.g) (fun _ _ hs=>?_));have zo:=LQ.add zn (LQ.lit (z:=1) kD);refine aq 4 63 hs (fun _ _ hs=>Cp (eF a) ((1:Int):Rat) (LQ.mono zn oM) (LQ.mono (LQ.lit (z:=1) kD) oM) _ _ hs.g hs.f.1) (fun _ _ hs=>?_);have hq40:=LQ.div ha zo;exact aq 5 64 hs (fun _ _ hs=>rQ a ((eF a)+((1:Int):Rat)) (LQ.mono ha oM) (LQ.mono zo oM) (oa a) _ _ hs.g hs.f.1) (fun _ _ hs=>eV 6 65 (qv (a/((eF a)+((1:Int):Rat)))) (eV 7 66 qT (cg hs (fun _ _ hs=>tP 8 0 0 (qc (a/((eF a)+((1:Int):Rat)))) hs (fun _ hs=>tV 9 7 qT (tN (kX (hs.ret [(0,0,5)] (.tuple #[qv (a/((eF a)+((1:Int):Rat))),qT]) (by rw[show s.op=11 by omega];rfl)))))))))
         have zx:=eq_of_beq zj;exact lB 53 zj (lL hs [.m 52 53] (am (ab hs [.o 54 (qv a) 2 0 5,.v 55 (qv 0)] (ah 56 hs (DC a 0 (LQ.mono ha oM) (LQ.mono (LQ.lit (z:=0) kD) oM) _ _ hs.g) (fun _ _ hs=>lP 0 0 (qc (maxR a 0)) hs (fun _ hs=>lL hs [.v 7 qT] (ac hs [(0,0,5)] (.tuple #[qv (maxR a 0),qT]) (by rw[show s.op=10 by omega];rfl))))))))
        have zw:=eq_of_beq zi;refine lB 49 zi (lL hs [.m 48 49] (am (ab hs [.o 50 (qv a) 2 0 5] ?_)));have hq49:LQ (K) (eF a):=LQ.abs ha;exact ah 51 hs (DT a (LQ.mono ha oM) _ _ hs.g) (fun _ _ hs=>lP 0 0 (qc (eF a)) hs (fun _ hs=>lL hs [.v 7 qT] (ac hs [(0,0,5)] (.tuple #[qv (eF a),qT]) (by rw[show s.op=9 by omega];rfl))))
       have zv:=eq_of_beq zg;exact lB 41 zg (lL hs [.m 40 41] (am (ab hs [.o 42 (qv a) 2 0 5,.v 43 (qP b1 1),.o 44 (iV s.n) 3 1 1] (ah 45 hs (Cq a s.n K hK ha (by have:=hn oM;omega) (hok.2 oM) _ _ hs.g hs.f.1) (fun _ _ hs=>lL hs [.v 46 (qv (iP a s.n)),.v 47 qT] (lP 0 0 (qc (iP a s.n)) hs (fun _ hs=>lL hs [.m 7 47] (ac hs [(0,0,5)] (.tuple #[qv (iP a s.n),qT]) (by rw[show s.op=8 by omega];rfl)))))))))
      have zu:=eq_of_beq zf;refine lB 37 zf (lL hs [.m 36 37] (am (ab hs [.o 38 (qv a) 2 0 5] ?_)));have hq56:LQ (K) (-a):=LQ.neg ha;exact ah 39 hs (Dc a (LQ.mono ha oM) _ _ hs.g) (fun _ _ hs=>lP 0 0 (qc (-a)) hs (fun _ hs=>lL hs [.v 7 qT] (ac hs [(0,0,5)] (.tuple #[qv (-a),qT]) (by rw[show s.op=7 by omega];rfl))))
     have zt:=eq_of_beq ze;refine lB 30 ze (lL hs [.m 29 30] (am (ab hs [.o 31 (qv a) 2 0 5,.o 32 (qv b) 1 0 5] ?_)));have hq60:=LQ.div ha hb;exact ah 33 hs (rQ a b (LQ.mono ha oM) (LQ.mono hb oM) (ru (hok.1 oM)) _ _ hs.g hs.f.1) (fun _ _ hs=>lL hs [.v 34 (qv (a/b)),.v 35 qT] (lP 0 0 (qc (a/b)) hs (fun _ hs=>lL hs [.m 7 35] (ac hs [(0,0,5)] (.tuple #[qv (a/b),qT]) (by rw[show s.op=6 by omega];rfl)))))
    have zs:=eq_of_beq zd;refine lB 25 zd (lL hs [.m 24 25] (am (ab hs [.o 26 (qv a) 2 0 5,.o 27 (qv b) 1 0 5] ?_)));have hq64:=LQ.mul ha hb;exact ah 28 hs (rq a b (LQ.mono ha oM) (LQ.mono hb oM) _ _ hs.g hs.f.1) (fun _ _ hs=>lP 0 0 (qc (a*b)) hs (fun _ hs=>lL hs [.v 7 qT] (ac hs [(0,0,5)] (.tuple #[qv (a*b),qT]) (by rw[show s.op=5 by omega];rfl))))
   have zr:=eq_of_beq zc;refine lB 20 zc (lL hs [.m 19 20] (am (ab hs [.o 21 (qv a) 2 0 5,.o 22 (qv b) 1 0 5] ?_)));have hq68:=LQ.sub ha hb;exact ah 23 hs (Ey a b (LQ.mono ha oM) (LQ.mono hb oM) _ _ hs.g hs.f.1) (fun _ _ hs=>lP 0 0 (qc (a-b)) hs (fun _ hs=>lL hs [.v 7 qT] (ac hs [(0,0,5)] (.tuple #[qv (a-b),qT]) (by rw[show s.op=4 by omega];rfl))))
  have zq:=eq_of_beq zb;refine lB 15 zb (lL hs [.m 14 15] (am (ab hs [.o 16 (qv a) 2 0 5,.o 17 (qv b) 1 0 5] ?_)));have hq72:=LQ.add ha hb;exact ah 18 hs (Cp a b (LQ.mono ha oM) (LQ.mono hb oM) _ _ hs.g hs.f.1) (fun _ _ hs=>lP 0 0 (qc (a+b)) hs (fun _ hs=>lL hs [.v 7 qT] (ac hs [(0,0,5)] (.tuple #[qv (a+b),qT]) (by rw[show s.op=3 by omega];rfl))))
 have zp:=eq_of_beq za;exact lB 11 za (lL hs [.m 10 11] (am (ab hs [.v 12 (qP b1 2),.o 13 (qv s.q) 3 2 5] (lP 0 0 (qc s.q) hs (fun _ hs=>lL hs [.v 7 qT] (ac hs [(0,0,5)] (.tuple #[qv s.q,qT]) (by rw[show s.op=1 by omega];rfl)))))))
theorem xt (s:PTm)(a b:Rat)(K:Nat)(hK:14*K+20≤100000000)(ha:LQ K a)(hb:LQ K b)(hq:LQ 1 s.q)(hK1:1≤K)(hop:s.op=6)(hz6:b=0)(w:World)(h:Hp)(g:G w h)(tb:Tab h):CV 61 #[pX s,qv a,qv b] w h (.tuple #[qv 0,.bool false]):=by
 have hs:=((sS g).aB tb);refine go Tryz.func61 [(0,pX s),(1,qv a),(2,qv b)] rfl (aA (lA 3 46 (pC s) hs (fun b1 w2 h3 hs=>lA 4 43 (qc a) hs (fun b4 w5 h6 hs=>lA 5 43 (qc b) hs (fun b7 w8 h9 hs=>lA 6 43 ([qF,uV 0,eS,uV 0,eS]) hs (fun b10 _ _ hs=>lL hs [.v 7 qF] (ae (ab hs [.v 8 (pB b1),.o 9 (iV s.op) 3 0 1] (bc (aA ?_))))))))));have za:((s.op:Int) == (1:Int))=false:=dM oM;have phb13:=ag za;refine lB 11 za (lL hs [.m 10 11] (af (aA ?_)));have zb:((s.op:Int) == (3:Int))=false:=dM oM;have phb14:=ag zb;refine lB 15 zb (lL hs [.m 14 15] (af (aA ?_)));have zc:((s.op:Int) == (4:Int))=false:=dM oM;have phb15:=ag zc;refine lB 20 zc (lL hs [.m 19 20] (af (aA ?_)));have zd:((s.op:Int) == (5:Int))=false:=dM oM;have phb16:=ag zd;refine lB 25 zd (lL hs [.m 24 25] (af (aA ?_)));have ze:((s.op:Int) == (6:Int))=true:=jF oM;have phb17:=eq_of_beq ze;exact lB 30 ze (lL hs [.m 29 30] (am (ab hs [.o 31 (qv a) 2 0 5,.o 32 (qv b) 1 0 5] (ah 33 hs (Ap a b hz6 _ _ hs.g) (fun _ _ hs=>lL hs [.v 34 (qv 0),.v 35 qF] (lP 0 0 (qc 0) hs (fun _ hs=>lL hs [.m 7 35] (ac hs [(0,0,5)] (.tuple #[qv 0,qF]) rfl))))))))
theorem wQ (s:PTm)(a b:Rat)(K:Nat)(hK:14*K+20≤100000000)(ha:LQ K a)(hb:LQ K b)(hq:LQ 1 s.q)(hK1:1≤K)(hop:s.op=8)(hn : -12≤s.n∧s.n<0)(hz8:a=0)(w:World)(h:Hp)(g:G w h)(tb:Tab h):CV 61 #[pX s,qv a,qv b] w h (.tuple #[qv 0,.bool false]):=by
 have hs:=((sS g).aB tb);refine go Tryz.func61 [(0,pX s),(1,qv a),(2,qv b)] rfl (aA (lA 3 46 (pC s) hs (fun b1 w2 h3 hs=>lA 4 43 (qc a) hs (fun b4 w5 h6 hs=>lA 5 43 (qc b) hs (fun b7 w8 h9 hs=>lA 6 43 ([qF,uV 0,eS,uV 0,eS]) hs (fun b10 _ _ hs=>lL hs [.v 7 qF] (ae (ab hs [.v 8 (pB b1),.o 9 (iV s.op) 3 0 1] (bc (aA ?_))))))))));have za:((s.op:Int) == (1:Int))=false:=dM oM;have phb13:=ag za;refine lB 11 za (lL hs [.m 10 11] (af (aA ?_)));have zb:((s.op:Int) == (3:Int))=false:=dM oM;have phb14:=ag zb;refine lB 15 zb (lL hs [.m 14 15] (af (aA ?_)));have zc:((s.op:Int) == (4:Int))=false:=dM oM;have phb15:=ag zc;refine lB 20 zc (lL hs [.m 19 20] (af (aA ?_)));have zd:((s.op:Int) == (5:Int))=false:=dM oM;have phb16:=ag zd;refine lB 25 zd (lL hs [.m 24 25] (af (aA ?_)));have ze:((s.op:Int) == (6:Int))=false:=dM oM;have phb17:=ag ze;refine lB 30 ze (lL hs [.m 29 30] (af (aA ?_)));have zf:((s.op:Int) == (7:Int))=false:=dM oM;have phb18:=ag zf;refine lB 37 zf (lL hs [.m 36 37] (af (aA ?_)));have zg:((s.op:Int) == (8:Int))=true:=jF oM;have phb19:=eq_of_beq zg;exact lB 41 zg (lL hs [.m 40 41] (am (ab hs [.o 42 (qv a) 2 0 5,.v 43 (qP b1 1),.o 44 (iV s.n) 3 1 1] (ah 45 hs (xe a s.n K hK ha oM oM hz8 _ _ hs.g hs.f.1) (fun _ _ hs=>lL hs [.v 46 (qv 0),.v 47 qF] (lP 0 0 (qc 0) hs (fun _ hs=>lL hs [.m 7 47] (ac hs [(0,0,5)] (.tuple #[qv 0,qF]) rfl))))))))
theorem oC (s:PTm)(a b:Rat)(K:Nat)(hK:14*K+20≤100000000)(ha:LQ K a)(hb:LQ K b)(hq:LQ 1 s.q)(hK1:1≤K)(hop:1≤s.op∧s.op≤13∧s.op≠2)(hn:s.op=8 → -12≤s.n∧s.n≤12)(w:World)(h:Hp)(g:G w h)(tb:Tab h):CV 61 #[dC s,qv a,qv b] w h (.tuple #[qv (kA s.op s.n s.q a b),.bool (decide (n5 s.op s.n a b))]):=by
 by_cases hok:n5 s.op s.n a b
 ·unfold kA;rw[if_pos hok,decide_eq_true hok];exact xg s a b K hK ha hb hq hK1 hop hn hok w h g tb
 ·unfold kA;rw[if_neg hok,decide_eq_false hok]
  by_cases h6:s.op=6∧b=0
  ·exact xt s a b K hK ha hb hq hK1 h6.1 h6.2 w h g tb
  ·by_cases h8:s.op=8∧s.n<0∧a=0
   ·exact wQ s a b K hK ha hb hq hK1 h8.1 ⟨(hn h8.1).1,h8.2.1⟩ h8.2.2 w h g tb
   ·exact absurd ⟨fun x y=>h6 ⟨x,y⟩,fun x y z=>h8 ⟨x,y,z⟩⟩ hok
theorem Ev {p:Prop}[Decidable p](h:(!decide p)=false):p:=by simpa using h
theorem EH {p:Prop}[Decidable p](h:(!decide p)=true):¬p:=by simpa using h
theorem xj (LA:Option Addr)(cL:Nat)(L:List PLt)(d:Nat)(hLl:L.length≤1000)(cc:Nat)(hc3:3≤cc)(hcm:cc≤7000)(hLq:∀ i,LQ (cc-2) (L.getD i bL).q)(n:Int)(q:Rat)(s:ByteArray)(A:Option Addr)(c:Nat)(ps:List PTm)(ks:List Tm)(w:World)(h:Hp)(g:G w h)(hK:SlO 9 cj aE h A ps)(hL:SlO 6 lb bL h LA L):CV 30 #[pW 2 n q s A ps.length c,.slice LA L.length cL] w h (.tuple #[qv (ba L (d+1) (.mk 2 n q s ks)).2,iV (ba L (d+1) (.mk 2 n q s ks)).1]):=by
 have hs:=(((sS g).aS hK).aS hL);refine go Tryz.func30 [(0,pW 2 n q s A ps.length c),(1,qS LA L.length cL)] rfl (aA (lA 2 46 (pG 2 n q s A ps.length c) hs (fun b1 w2 h3 hs=>lA 4 43 ([qF,uV 0,eS,uV 0,eS]) hs (fun b4 w5 h6 hs=>lL hs [.v 5 (iV 0)] (ae (ab hs [.v 15 (pB b1),.o 16 (iV 2) 1 0 1,.v 17 qT] (am (cQ (ab hs [.m 18 1,.v 19 (nV L.length),.v 20 (iV 0)] (bc ?_))))))))));refine bJ _ (CG.loop (fun μ_ Γ w_=>∃ (k:Nat) (h_:Hp),μ_=L.length-k∧Γ=[(1,qS LA L.length cL),(2,pB b1),(4,pB b4),(18,qS LA L.length cL),(19,nV L.length),(20,nV k)]∧SS w h w_ h_ [⟨b4,43,[qF,uV 0,eS,uV 0,eS]⟩,⟨b1,46,pG 2 n q s A ps.length c⟩] [] [fun h_=>SlO 6 lb bL h_ LA L,fun h_=>SlO 9 cj aE h_ A ps]∧k≤L.length∧(∀ i,i<k→(L.getD i bL).s≠s)) _ ⟨0,h6,rfl,rfl,hs.to _ _,Nat.zero_le _,(fun i hi=>absurd hi (Nat.not_lt_zero i))⟩ ?_);rintro _ _ w7 ⟨k,h8,hm9,rfl,hs,hk,hno⟩;refine aA ?_;cases za:(decide ((k:Int)<(L.length:Int)))
 ·
  have zc:=oF za;refine lB 21 za (ae (cF (CG.exit ?_)))
  show CG _ _ _ _ _ _ _ _
  refine ab hs [.v 32 (.agg #[qF,uV 0,eS,uV 0,eS])] (lP 0 0 ([qF,uV 0,eS,uV 0,eS]) hs (fun _ hs=>lL hs [.v 5 (iV 11)] (lN (kX ?_))));have hkn:k=L.length:=by omega
  rw[hkn] at hno
  exact hs.ret [(0,0,5)] (.tuple #[.agg #[qF,uV 0,eS,uV 0,eS],iV 11]) (by rw[iF rfl (tL hno)];rfl)
 have zc:=oT za;refine lB 21 za (ae (cf (cK (cQ (kZ (aA (lX 22 LA L.length cL 6 (k:Nat) k ((hs.f.1).ok oM) ?_)))))));refine lH 23 (.agg #[.string ((L.getD k bL).s),.bool (ai ((L.getD k bL).q).num),uV (lo (aa ((L.getD k bL).q).num)),.string (hi (aa ((L.getD k bL).q).num)),uV (lo (qd ((L.getD k bL).q))),.string (hi (qd ((L.getD k bL).q)))]) hs ((hs.f.1).el k oM) (lA 7 61 ([eS,qF,uV 0,eS,uV 0,eS]) hs (fun ze _ zf hs=>lP 0 0 ([.string ((L.getD k bL).s),.bool (ai ((L.getD k bL).q).num),uV (lo (aa ((L.getD k bL).q).num)),.string (hi (aa ((L.getD k bL).q).num)),uV (lo (qd ((L.getD k bL).q))),.string (hi (qd ((L.getD k bL).q)))]) hs (fun _ hs=>aJ (lL hs [.v 24 (pB ze),.o 25 (.string ((L.getD k bL).s)) 0 0 1,.v 26 (qP b1 7),.o 27 (.string s) 2 7 1] ?_))));cases zb:(iI ((L.getD k bL).s) s)
 ·
  have zd:=fA zb;refine lB 28 zb (af (cK (kQ (bu 31 ((k:Nat)+1) (k+1) ?_))));refine lL hs [.m 20 31] (lD ?_);intro a_ ka;replace hs:=hs.drop 1 0;refine ⟨_,_,?_,⟨k+1,zf,rfl,rfl,hs.to _ _,oM,(fun i hi=>by rcases Nat.lt_succ_iff_lt_or_eq.1 hi with h_|rfl;exact hno i h_;assumption)⟩,ka.to _ kR⟩
  omega
 have zd:=fD zb;exact lB 28 zb (am (ab hs [.v 29 (qP ze 1),.o 30 (qv ((L.getD k bL).q)) 0 1 5] (lP 1 0 (qc ((L.getD k bL).q)) hs (fun _ hs=>lL hs [.v 5 (iV 0)] (ac hs [(1,0,5)] (.tuple #[qv ((L.getD k bL).q),iV 0]) (by rw[gT rfl (tF hno oM aM)]))))))
theorem vg  (ok:ByteArray→Prop)(d:Nat)(LA:Option Addr)(cL:Nat)(L:List PLt)(hLl:L.length≤1000)(cc:Nat)(hc3:3≤cc)(hcm:cc≤7000)(hLq:∀ i,LQ (cc-2) (L.getD i bL).q)(ih:∀ (p:PTm) (t:Tm) (w:World) (h:Hp),G w h→TmH d h p t→WfT ok d t→bV d t≤1000→SlO 6 lb bL h LA L→Tab h→Calls Tryz.prog 30 #[dC p,.slice LA L.length cL] w (Ret w h (fun v _=>v=.tuple #[qv (ba L d t).2,iV (ba L d t).1])))(op n:Int)(q:Rat)(s:ByteArray)(A:Option Addr)(c:Nat)(hop:1≤op∧op≤13∧op≠2)(hn : -12≤n∧n≤12)(hq:LQ 1 q)(w:World)(h:Hp)(g:G w h)(hK:SlO 9 cj aE h A ([]:List PTm))(hL:SlO 6 lb bL h LA L)(tb:Tab h):CV 30 #[pW op n q s A 0 c,.slice LA L.length cL] w h (.tuple #[qv (ba L (d+1) (.mk op n q s ([]:List Tm))).2,iV (ba L (d+1) (.mk op n q s ([]:List Tm))).1]):=by
 have hs:=((((sS g).aS hK).aS hL).aB tb);have hln:([]:List PTm).length=0:=rfl;refine go Tryz.func30 [(0,pW op n q s A 0 c),(1,qS LA L.length cL)] rfl (aA (lA 2 46 (pG op n q s A 0 c) hs (fun b1 w2 h3 hs=>lA 4 43 ([qF,uV 0,eS,uV 0,eS]) hs (fun b4 w5 h6 hs=>lL hs [.v 5 (iV 0)] (ae (ab hs [.v 15 (pB b1),.o 16 (iV op) 1 0 1] ?_))))));have hb7:((op:Int) == (2:Int))=false:=dM oM;have phb7:=ag hb7;refine lB 17 hb7 (af (cK (aA (lA 8 126 ([qF,uV 0,eS,uV 0,eS,qF,uV 0,eS,uV 0,eS]) hs (fun b8 w9 _ hs=>ae (ab hs [.v 33 (qP b1 8),.o 34 (qS A 0 c) 2 8 1,.v 35 (iV 0),.v 36 (iV 0)] (bc (cU ?_))))))));refine cN (ab hs [.v 37 qF] (ae (cF (CG.exit ?_))))
 show CG _ _ _ _ _ _ _ _
 refine ab hs [.o 56 (pW op n q s A 0 c) 2 0 9,.v 57 (pB b8),.o 58 (qv 0) 0 0 5,.v 59 (qP b8 5),.o 60 (qv 0) 0 5 5] (ah 61 hs (oC (⟨op,n,q,s,A,0,c⟩:PTm) 0 0 (cc*1000) oM (qz oM) (qz oM) hq oM (by show 1≤op∧op≤13∧op≠2;omega) (by show op=8 → -12≤n∧n≤12;omega) _ _ hs.g hs.f.1) (fun _ _ hs=>lL hs [.m 55 61,.v 62 (qv (kA op n q 0 0)),.v 63 (.bool (decide (n5 op n 0 0)))] (lA 13 43 ([qF,uV 0,eS,uV 0,eS]) hs (fun b13 _ _ hs=>lP 0 0 (qc (kA op n q 0 0)) hs (fun _ hs=>lL hs [.m 14 63] (ae (ab hs [.m 64 14] ?_)))))));cases za:(!(decide (n5 op n 0 0)))
 ·
  exact lB 65 za (af (cK (ab hs [.o 67 (qv (kA op n q 0 0)) 0 0 5] (lP 2 0 (qc (kA op n q 0 0)) hs (fun _ hs=>lL hs [.v 5 (iV 0)] (ac hs [(2,0,5)] (.tuple #[qv (kA op n q 0 0),iV 0]) (by rw[jT oM,n9 oM oM (Ev aM)])))))))
 exact lB 65 za (am (ab hs [.v 66 (.agg #[qF,uV 0,eS,uV 0,eS])] (lP 2 0 ([qF,uV 0,eS,uV 0,eS]) hs (fun _ hs=>lL hs [.v 5 (iV 6)] (ac hs [(2,0,5)] (.tuple #[.agg #[qF,uV 0,eS,uV 0,eS],iV 6]) (by rw[jT oM,sd oM oM (EH aM)];rfl))))))
theorem xu  (ok:ByteArray→Prop)(d:Nat)(LA:Option Addr)(cL:Nat)(L:List PLt)(hLl:L.length≤1000)(cc:Nat)(hc3:3≤cc)(hcm:cc≤7000)(hLq:∀ i,LQ (cc-2) (L.getD i bL).q)(ih:∀ (p:PTm) (t:Tm) (w:World) (h:Hp),G w h→TmH d h p t→WfT ok d t→bV d t≤1000→SlO 6 lb bL h LA L→Tab h→Calls Tryz.prog 30 #[dC p,.slice LA L.length cL] w (Ret w h (fun v _=>v=.tuple #[qv (ba L d t).2,iV (ba L d t).1])))(op n:Int)(q:Rat)(s:ByteArray)(A:Option Addr)(c:Nat)(p1:PTm)(t1:Tm)(hw1:WfT ok d t1)(hg1:bV d t1≤1000)(hv1:LQ (cc*1000) (ba L d t1).2)(hop:1≤op∧op≤13∧op≠2)(hn : -12≤n∧n≤12)(hq:LQ 1 q)(w:World)(h:Hp)(g:G w h)(hK:SlO 9 cj aE h A ([p1]:List PTm))(hp1:TmH d h p1 t1)(hL:SlO 6 lb bL h LA L)(tb:Tab h):CV 30 #[pW op n q s A 1 c,.slice LA L.length cL] w h (.tuple #[qv (ba L (d+1) (.mk op n q s ([t1]:List Tm))).2,iV (ba L (d+1) (.mk op n q s ([t1]:List Tm))).1]):=by
 have hs:=(((((sS g).aS hK).add (K:=fun h_=>TmH d h_ p1 t1) hp1).aS hL).aB tb);have hln:([p1]:List PTm).length=1:=rfl;refine go Tryz.func30 [(0,pW op n q s A 1 c),(1,qS LA L.length cL)] rfl (aA (lA 2 46 (pG op n q s A 1 c) hs (fun b1 w2 h3 hs=>lA 4 43 ([qF,uV 0,eS,uV 0,eS]) hs (fun b4 w5 h6 hs=>lL hs [.v 5 (iV 0)] (ae (ab hs [.v 15 (pB b1),.o 16 (iV op) 1 0 1] ?_))))));have hb7:((op:Int) == (2:Int))=false:=dM oM;have phb7:=ag hb7;refine lB 17 hb7 (af (cK (aA (lA 8 126 ([qF,uV 0,eS,uV 0,eS,qF,uV 0,eS,uV 0,eS]) hs (fun b8 w9 _ hs=>ae (ab hs [.v 33 (qP b1 8),.o 34 (qS A 1 c) 2 8 1,.v 35 (iV 1),.v 36 (iV 0)] (bc (cU ?_))))))));refine cN (ab hs [.v 37 qT] (ae (cf (cK (cQ (kZ (ab hs [.m 38 36] (lX 39 A 1 c 9 0 0 ((hs.f.r.2.1).ok oM) ?_))))))));refine lH 40 (pX (([p1]:List PTm).getD 0 aE)) hs ((hs.f.r.2.1).el 0 oM) (lA 10 46 ([iV 0,iV 0,qF,uV 0,eS,uV 0,eS,eS,sZ]) hs (fun zd _ _ hs=>lL hs [.m 9 38] (lP 0 0 (pC (([p1]:List PTm).getD 0 aE)) hs (fun _ hs=>aJ (lL hs [.o 42 (pX (([p1]:List PTm).getD 0 aE)) 0 0 9,.m 43 1] (ah 44 hs (ih (([p1]:List PTm).getD 0 aE) t1 _ _ hs.g hs.f.r.1 hw1 hg1 hs.f.2.1 hs.f.1) (fun _ _ hs=>lL hs [.m 41 44,.v 45 (qv ((ba L d t1).2)),.v 46 (iV ((ba L d t1).1))] (lA 11 43 ([qF,uV 0,eS,uV 0,eS]) hs (fun ze _ _ hs=>lP 0 0 (qc ((ba L d t1).2)) hs (fun _ hs=>lL hs [.m 12 46] (ae (ab hs [.m 47 12] ?_))))))))))));cases za:(((ba L d t1).1:Int) != (0:Int))
 ·
  have zc:=aI za;refine lB 48 za (af (cK (kQ (lL hs [.m 51 9,.o 52 (qv ((ba L d t1).2)) 0 0 5,.v 53 (pB b8)] (lP 2 0 (qc ((ba L d t1).2)) hs (fun _ hs=>lN (kQ (lL hs [.v 54 (iV 1),.m 36 54] (lD (CL.to [(1,qS LA L.length cL),(2,pB b1),(4,pB b4),(5,iV 0),(8,pB b8),(34,qS A 1 c),(35,iV 1),(36,iV 1),(37,qT),(38,iV 0),(39,.pointer (some ⟨(aB A),aO A+0*9,none⟩)),(40,pX (([p1]:List PTm).getD 0 aE)),(10,pB zd),(9,iV 0),(42,pX (([p1]:List PTm).getD 0 aE)),(43,qS LA L.length cL),(44,.tuple #[qv ((ba L d t1).2),iV ((ba L d t1).1)]),(41,.tuple #[qv ((ba L d t1).2),iV ((ba L d t1).1)]),(45,qv ((ba L d t1).2)),(46,iV ((ba L d t1).1)),(11,pB ze),(12,iV ((ba L d t1).1)),(47,iV ((ba L d t1).1)),(48,qF),(51,iV 0),(52,qv ((ba L d t1).2)),(53,pB b8),(54,iV 1)] ?_))))))))));replace hs:=hs.to [⟨ze,43,qc ((ba L d t1).2)⟩,⟨zd,46,pC (([p1]:List PTm).getD 0 aE)⟩,⟨b8,126,[.bool (ai ((ba L d t1).2).num),uV (lo (aa ((ba L d t1).2).num)),.string (hi (aa ((ba L d t1).2).num)),uV (lo (qd ((ba L d t1).2))),.string (hi (qd ((ba L d t1).2))),qF,uV 0,eS,uV 0,eS]⟩,⟨b4,43,[qF,uV 0,eS,uV 0,eS]⟩,⟨b1,46,pG op n q s A 1 c⟩] [];refine cN (ab hs [.v 37 qF] (ae (cF (CG.exit ?_))))
  show CG _ _ _ _ _ _ _ _
  refine ab hs [.o 56 (pW op n q s A 1 c) 4 0 9,.v 57 (pB b8),.o 58 (qv ((ba L d t1).2)) 2 0 5,.v 59 (qP b8 5),.o 60 (qv 0) 2 5 5] (ah 61 hs (oC (⟨op,n,q,s,A,1,c⟩:PTm) ((ba L d t1).2) 0 (cc*1000) oM hv1 (qz oM) hq oM (by show 1≤op∧op≤13∧op≠2;omega) (by show op=8 → -12≤n∧n≤12;omega) _ _ hs.g hs.f.1) (fun _ _ hs=>lL hs [.m 55 61,.v 62 (qv (kA op n q ((ba L d t1).2) 0)),.v 63 (.bool (decide (n5 op n ((ba L d t1).2) 0)))] (lA 13 43 ([qF,uV 0,eS,uV 0,eS]) hs (fun zf _ _ hs=>lP 0 0 (qc (kA op n q ((ba L d t1).2) 0)) hs (fun _ hs=>lL hs [.m 14 63] (ae (ab hs [.m 64 14] ?_)))))));cases zb:(!(decide (n5 op n ((ba L d t1).2) 0)))
  ·
   refine lB 65 zb (lN (bJ [(4,pB b4),(5,iV 0),(13,pB zf),(65,qF)] ?_));exact cF (cK (ab hs [.o 67 (qv (kA op n q ((ba L d t1).2) 0)) 0 0 5] (lP 4 0 (qc (kA op n q ((ba L d t1).2) 0)) hs (fun _ hs=>lL hs [.v 5 (iV 0)] (ac hs [(4,0,5)] (.tuple #[qv (kA op n q ((ba L d t1).2) 0),iV 0]) (by rw[iU oM,n9 oM oM (Ev aM)]))))))
  refine lB 65 zb (lN (bJ [(4,pB b4),(5,iV 0),(13,pB zf),(65,qT)] ?_));exact cf (ab hs [.v 66 (.agg #[qF,uV 0,eS,uV 0,eS])] (lP 4 0 ([qF,uV 0,eS,uV 0,eS]) hs (fun _ hs=>lL hs [.v 5 (iV 6)] (ac hs [(4,0,5)] (.tuple #[.agg #[qF,uV 0,eS,uV 0,eS],iV 6]) (by rw[iU oM,sd oM oM (EH aM)];rfl)))))
 have zc:=aR za;exact lB 48 za (am (ab hs [.v 49 (.agg #[qF,uV 0,eS,uV 0,eS]),.m 50 12] (lP 3 0 ([qF,uV 0,eS,uV 0,eS]) hs (fun _ hs=>lL hs [.m 5 50] (ac hs [(3,0,5)] (.tuple #[.agg #[qF,uV 0,eS,uV 0,eS],iV ((ba L d t1).1)]) (by rw[iU oM,Ag oM];rfl))))))
theorem vU  (ok:ByteArray→Prop)(d:Nat)(LA:Option Addr)(cL:Nat)(L:List PLt)(hLl:L.length≤1000)(cc:Nat)(hc3:3≤cc)(hcm:cc≤7000)(hLq:∀ i,LQ (cc-2) (L.getD i bL).q)(ih:∀ (p:PTm) (t:Tm) (w:World) (h:Hp),G w h→TmH d h p t→WfT ok d t→bV d t≤1000→SlO 6 lb bL h LA L→Tab h→Calls Tryz.prog 30 #[dC p,.slice LA L.length cL] w (Ret w h (fun v _=>v=.tuple #[qv (ba L d t).2,iV (ba L d t).1])))(op n:Int)(q:Rat)(s:ByteArray)(A:Option Addr)(c:Nat)(p1:PTm)(t1:Tm)(hw1:WfT ok d t1)(hg1:bV d t1≤1000)(hv1:LQ (cc*1000) (ba L d t1).2)(p2:PTm)(t2:Tm)(hw2:WfT ok d t2)(hg2:bV d t2≤1000)(hv2:LQ (cc*1000) (ba L d t2).2)(hop:1≤op∧op≤13∧op≠2)(hn : -12≤n∧n≤12)(hq:LQ 1 q)(w:World)(h:Hp)(g:G w h)(hK:SlO 9 cj aE h A ([p1,p2]:List PTm))(hp1:TmH d h p1 t1)(hp2:TmH d h p2 t2)(hL:SlO 6 lb bL h LA L)(tb:Tab h):CV 30 #[pW op n q s A 2 c,.slice LA L.length cL] w h (.tuple #[qv (ba L (d+1) (.mk op n q s ([t1,t2]:List Tm))).2,iV (ba L (d+1) (.mk op n q s ([t1,t2]:List Tm))).1]):=by
 have hs:=((((((sS g).aS hK).add (K:=fun h_=>TmH d h_ p1 t1) hp1).add (K:=fun h_=>TmH d h_ p2 t2) hp2).aS hL).aB tb);have hln:([p1,p2]:List PTm).length=2:=rfl;refine go Tryz.func30 [(0,pW op n q s A 2 c),(1,qS LA L.length cL)] rfl (aA (lA 2 46 (pG op n q s A 2 c) hs (fun b1 w2 h3 hs=>lA 4 43 ([qF,uV 0,eS,uV 0,eS]) hs (fun b4 w5 h6 hs=>lL hs [.v 5 (iV 0)] (ae (ab hs [.v 15 (pB b1),.o 16 (iV op) 1 0 1] ?_))))));have hb7:((op:Int) == (2:Int))=false:=dM oM;have phb7:=ag hb7;refine lB 17 hb7 (af (cK (aA (lA 8 126 ([qF,uV 0,eS,uV 0,eS,qF,uV 0,eS,uV 0,eS]) hs (fun b8 w9 _ hs=>ae (ab hs [.v 33 (qP b1 8),.o 34 (qS A 2 c) 2 8 1,.v 35 (iV 2),.v 36 (iV 0)] (bc (cU ?_))))))));refine cN (ab hs [.v 37 qT] (ae (cf (cK (cQ (kZ (ab hs [.m 38 36] (lX 39 A 2 c 9 0 0 ((hs.f.q.1).ok oM) ?_))))))));refine lH 40 (pX (([p1,p2]:List PTm).getD 0 aE)) hs ((hs.f.q.1).el 0 oM) (lA 10 46 ([iV 0,iV 0,qF,uV 0,eS,uV 0,eS,eS,sZ]) hs (fun zc _ _ hs=>lL hs [.m 9 38] (lP 0 0 (pC (([p1,p2]:List PTm).getD 0 aE)) hs (fun _ hs=>aJ (lL hs [.o 42 (pX (([p1,p2]:List PTm).getD 0 aE)) 0 0 9,.m 43 1] (ah 44 hs (ih (([p1,p2]:List PTm).getD 0 aE) t1 _ _ hs.g hs.f.r.2.1 hw1 hg1 hs.f.2.1 hs.f.1) (fun _ _ hs=>lL hs [.m 41 44,.v 45 (qv ((ba L d t1).2)),.v 46 (iV ((ba L d t1).1))] (lA 11 43 ([qF,uV 0,eS,uV 0,eS]) hs (fun zd _ _ hs=>lP 0 0 (qc ((ba L d t1).2)) hs (fun _ hs=>lL hs [.m 12 46] (ae (ab hs [.m 47 12] ?_))))))))))));cases za:(((ba L d t1).1:Int) != (0:Int))
 ·
  have zf:=aI za;refine lB 48 za (af (cK (kQ (lL hs [.m 51 9,.o 52 (qv ((ba L d t1).2)) 0 0 5,.v 53 (pB b8)] (lP 2 0 (qc ((ba L d t1).2)) hs (fun _ hs=>lN (kQ (lL hs [.v 54 (iV 1),.m 36 54] (lD (CL.to [(1,qS LA L.length cL),(2,pB b1),(4,pB b4),(5,iV 0),(8,pB b8),(34,qS A 2 c),(35,iV 2),(36,iV 1),(37,qT),(38,iV 0),(39,.pointer (some ⟨(aB A),aO A+0*9,none⟩)),(40,pX (([p1,p2]:List PTm).getD 0 aE)),(10,pB zc),(9,iV 0),(42,pX (([p1,p2]:List PTm).getD 0 aE)),(43,qS LA L.length cL),(44,.tuple #[qv ((ba L d t1).2),iV ((ba L d t1).1)]),(41,.tuple #[qv ((ba L d t1).2),iV ((ba L d t1).1)]),(45,qv ((ba L d t1).2)),(46,iV ((ba L d t1).1)),(11,pB zd),(12,iV ((ba L d t1).1)),(47,iV ((ba L d t1).1)),(48,qF),(51,iV 0),(52,qv ((ba L d t1).2)),(53,pB b8),(54,iV 1)] ?_))))))))));replace hs:=hs.to [⟨zd,43,qc ((ba L d t1).2)⟩,⟨zc,46,pC (([p1,p2]:List PTm).getD 0 aE)⟩,⟨b8,126,[.bool (ai ((ba L d t1).2).num),uV (lo (aa ((ba L d t1).2).num)),.string (hi (aa ((ba L d t1).2).num)),uV (lo (qd ((ba L d t1).2))),.string (hi (qd ((ba L d t1).2))),qF,uV 0,eS,uV 0,eS]⟩,⟨b4,43,[qF,uV 0,eS,uV 0,eS]⟩,⟨b1,46,pG op n q s A 2 c⟩] [];refine cN (ab hs [.v 37 qT] (ae (cf (cK (cQ (kZ (ab hs [.m 38 36] (lX 39 A 2 c 9 1 1 ((hs.f.q.1).ok oM) ?_))))))));refine lH 40 (pX (([p1,p2]:List PTm).getD 1 aE)) hs ((hs.f.q.1).el 1 oM) (lA 10 46 ([iV 0,iV 0,qF,uV 0,eS,uV 0,eS,eS,sZ]) hs (fun zi _ _ hs=>lL hs [.m 9 38] (lP 0 0 (pC (([p1,p2]:List PTm).getD 1 aE)) hs (fun _ hs=>aJ (lL hs [.o 42 (pX (([p1,p2]:List PTm).getD 1 aE)) 0 0 9,.m 43 1] (ah 44 hs (ih (([p1,p2]:List PTm).getD 1 aE) t2 _ _ hs.g hs.f.r.1 hw2 hg2 hs.f.2.1 hs.f.1) (fun _ _ hs=>lL hs [.m 41 44,.v 45 (qv ((ba L d t2).2)),.v 46 (iV ((ba L d t2).1))] (lA 11 43 ([qF,uV 0,eS,uV 0,eS]) hs (fun zj _ _ hs=>lP 0 0 (qc ((ba L d t2).2)) hs (fun _ hs=>lL hs [.m 12 46] (ae (ab hs [.m 47 12] ?_))))))))))));cases zb:(((ba L d t2).1:Int) != (0:Int))
  ·
   have zg:=aI zb;refine lB 48 zb (af (cK (kQ (lL hs [.m 51 9,.o 52 (qv ((ba L d t2).2)) 0 0 5,.v 53 (qP b8 5)] (lP 4 5 (qc ((ba L d t2).2)) hs (fun _ hs=>lN (kQ (lL hs [.v 54 (iV 2),.m 36 54] (lD (CL.to [(1,qS LA L.length cL),(2,pB b1),(4,pB b4),(5,iV 0),(8,pB b8),(34,qS A 2 c),(35,iV 2),(36,iV 2),(37,qT),(38,iV 1),(39,.pointer (some ⟨(aB A),aO A+1*9,none⟩)),(40,pX (([p1,p2]:List PTm).getD 1 aE)),(10,pB zi),(9,iV 1),(42,pX (([p1,p2]:List PTm).getD 1 aE)),(43,qS LA L.length cL),(44,.tuple #[qv ((ba L d t2).2),iV ((ba L d t2).1)]),(41,.tuple #[qv ((ba L d t2).2),iV ((ba L d t2).1)]),(45,qv ((ba L d t2).2)),(46,iV ((ba L d t2).1)),(11,pB zj),(12,iV ((ba L d t2).1)),(47,iV ((ba L d t2).1)),(48,qF),(51,iV 1),(52,qv ((ba L d t2).2)),(53,qP b8 5),(54,iV 2)] ?_))))))))));replace hs:=hs.to [⟨zj,43,qc ((ba L d t2).2)⟩,⟨zi,46,pC (([p1,p2]:List PTm).getD 1 aE)⟩,⟨zd,43,qc ((ba L d t1).2)⟩,⟨zc,46,pC (([p1,p2]:List PTm).getD 0 aE)⟩,⟨b8,126,[.bool (ai ((ba L d t1).2).num),uV (lo (aa ((ba L d t1).2).num)),.string (hi (aa ((ba L d t1).2).num)),uV (lo (qd ((ba L d t1).2))),.string (hi (qd ((ba L d t1).2))),.bool (ai ((ba L d t2).2).num),uV (lo (aa ((ba L d t2).2).num)),.string (hi (aa ((ba L d t2).2).num)),uV (lo (qd ((ba L d t2).2))),.string (hi (qd ((ba L d t2).2)))]⟩,⟨b4,43,[qF,uV 0,eS,uV 0,eS]⟩,⟨b1,46,pG op n q s A 2 c⟩] [];refine cN (ab hs [.v 37 qF] (ae (cF (CG.exit ?_))))
   show CG _ _ _ _ _ _ _ _
   refine ab hs [.o 56 (pW op n q s A 2 c) 6 0 9,.v 57 (pB b8),.o 58 (qv ((ba L d t1).2)) 4 0 5,.v 59 (qP b8 5),.o 60 (qv ((ba L d t2).2)) 4 5 5] (ah 61 hs (oC (⟨op,n,q,s,A,2,c⟩:PTm) ((ba L d t1).2) ((ba L d t2).2) (cc*1000) oM hv1 hv2 hq oM (by show 1≤op∧op≤13∧op≠2;omega) (by show op=8 → -12≤n∧n≤12;omega) _ _ hs.g hs.f.1) (fun _ _ hs=>lL hs [.m 55 61,.v 62 (qv (kA op n q ((ba L d t1).2) ((ba L d t2).2))),.v 63 (.bool (decide (n5 op n ((ba L d t1).2) ((ba L d t2).2))))] (lA 13 43 ([qF,uV 0,eS,uV 0,eS]) hs (fun zk _ _ hs=>lP 0 0 (qc (kA op n q ((ba L d t1).2) ((ba L d t2).2))) hs (fun _ hs=>lL hs [.m 14 63] (ae (ab hs [.m 64 14] ?_)))))));cases ze:(!(decide (n5 op n ((ba L d t1).2) ((ba L d t2).2))))
   ·
    refine lB 65 ze (lN (bJ [(4,pB b4),(5,iV 0),(13,pB zk),(65,qF)] ?_));exact cF (cK (ab hs [.o 67 (qv (kA op n q ((ba L d t1).2) ((ba L d t2).2))) 0 0 5] (lP 6 0 (qc (kA op n q ((ba L d t1).2) ((ba L d t2).2))) hs (fun _ hs=>lL hs [.v 5 (iV 0)] (ac hs [(6,0,5)] (.tuple #[qv (kA op n q ((ba L d t1).2) ((ba L d t2).2)),iV 0]) (by rw[g9 oM,n9 oM oM (Ev aM)]))))))
   refine lB 65 ze (lN (bJ [(4,pB b4),(5,iV 0),(13,pB zk),(65,qT)] ?_));exact cf (ab hs [.v 66 (.agg #[qF,uV 0,eS,uV 0,eS])] (lP 6 0 ([qF,uV 0,eS,uV 0,eS]) hs (fun _ hs=>lL hs [.v 5 (iV 6)] (ac hs [(6,0,5)] (.tuple #[.agg #[qF,uV 0,eS,uV 0,eS],iV 6]) (by rw[g9 oM,sd oM oM (EH aM)];rfl)))))
  have zg:=aR zb;exact lB 48 zb (am (ab hs [.v 49 (.agg #[qF,uV 0,eS,uV 0,eS]),.m 50 12] (lP 5 0 ([qF,uV 0,eS,uV 0,eS]) hs (fun _ hs=>lL hs [.m 5 50] (ac hs [(5,0,5)] (.tuple #[.agg #[qF,uV 0,eS,uV 0,eS],iV ((ba L d t2).1)]) (by rw[g9 oM,CS oM oM];rfl))))))
 have zf:=aR za;exact lB 48 za (am (ab hs [.v 49 (.agg #[qF,uV 0,eS,uV 0,eS]),.m 50 12] (lP 3 0 ([qF,uV 0,eS,uV 0,eS]) hs (fun _ hs=>lL hs [.m 5 50] (ac hs [(3,0,5)] (.tuple #[.agg #[qF,uV 0,eS,uV 0,eS],iV ((ba L d t1).1)]) (by rw[g9 oM,Ag oM];rfl))))))
theorem uN (ok:ByteArray→Prop)(LA:Option Addr)(cL:Nat)(L:List PLt)(hLl:L.length≤1000)(cc:Nat)(hc3:3≤cc)(hcm:cc≤7000)(hLq:∀ i,LQ (cc-2) (L.getD i bL).q):∀ (d:Nat) (p:PTm) (t:Tm) (w:World) (h:Hp),G w h→TmH d h p t→WfT ok d t→bV d t≤1000→SlO 6 lb bL h LA L→Tab h→Calls Tryz.prog 30 #[dC p,.slice LA L.length cL] w (Ret w h (fun v _=>v=.tuple #[qv (ba L d t).2,iV (ba L d t).1]))
  | 0,_,_,_,_,_,x,_,_,_,_=>x.elim
  | d + 1,p,t,w,h,g,x,wf,hw,hL,tb=>by
    obtain ⟨op,n,q,s,A,c,ps,ks,rfl,rfl,hc,hK,hKs⟩:=x.open;obtain ⟨w1,w2,w3,w4,w5,w6,w7,w8,w9⟩:=wf;replace w1:eg op=(ks.length:Nat):=w1;replace w9:∀ i,i<ks.length→WfT ok d (ks.getD i bE):=w9;have hac:=aG op;have ih:=fun p t w h=>uN ok LA cL L hLl cc hc3 hcm hLq d p t w h
    by_cases o2:op=2
    · subst o2;exact xj LA cL L d hLl cc hc3 hcm hLq n q s A c ps ks w h g hK hL
    · rcases ir w1 with rfl|⟨t1,rfl⟩|⟨t1,t2,rfl⟩
      · have e0:ps=[]:=List.eq_nil_of_length_eq_zero hKs.len
        subst e0
        simp only[List.length_nil] at w1
        exact vg ok d LA cL L hLl cc hc3 hcm hLq ih op n q s A c oM ⟨w7,w8⟩ w3 w h g hK hL tb
      · obtain ⟨p1,rfl⟩:=List.length_eq_one_iff.1 (show ps.length=1 from hKs.len)
        simp only[List.length_cons,List.length_nil] at w1
        have f1:WfT ok d t1:=w9 0 (Nat.succ_pos _);have g1:bV d t1≤1000:=uj hw;exact xu ok d LA cL L hLl cc hc3 hcm hLq ih op n q s A c p1 t1 f1 g1 (kV hc3 hLq f1 g1) oM ⟨w7,w8⟩ w3 w h g hK (hKs.at_ 0 (Nat.succ_pos _)) hL tb
      · obtain ⟨p1,p2,rfl⟩:=wc (show ps.length=2 from hKs.len)
        simp only[List.length_cons,List.length_nil] at w1
        have f1:WfT ok d t1:=w9 0 (Nat.succ_pos _);have f2:WfT ok d t2:=w9 1 (by show 1<2;decide);obtain ⟨g1,g2⟩:=rO hw;exact vU ok d LA cL L hLl cc hc3 hcm hLq ih op n q s A c p1 t1 f1 g1 (kV hc3 hLq f1 g1) p2 t2 f2 g2 (kV hc3 hLq f2 g2) oM ⟨w7,w8⟩ w3 w h g hK (hKs.at_ 0 (Nat.succ_pos _)) (hKs.at_ 1 (by show 1<2;decide)) hL tb
theorem sQ (isb:ByteArray→Bool)(sm:ByteArray→Prop)(hIs:∀ s,sm s→∀ (w:World) (h:Hp),G w h→Calls Tryz.prog 74 #[.string s] w (Ret w h (fun v _=>∃ b,v=.bool b∧b=isb s)))(LA:Option Addr)(cL:Nat)(L:List PLt)(hLl:L.length≤1000)(cc:Nat)(hc3:3≤cc)(hcm:cc≤7000)(hLq:∀ i,LQ (cc-2) (L.getD i bL).q)(d:Nat)(p:PTm)(t:Tm)(hd:d≤24)(w:World)(h:Hp)(g:G w h)(hT:TmH d h p t)(hS:SmT sm d t)(hL:SlO 6 lb bL h LA L)(tb:Tab h):CR 13 #[pX p,.slice LA L.length cL] w h (fun v _=>∃ (e:Int) (x:Rat),v=.tuple #[qv x,iV e]∧EvR (fun s=>isb s=true) L d t e x):=by
 have hs:=((((sS g).add (K:=fun h_=>TmH d h_ p t) hT).aS hL).aB tb);refine go Tryz.func13 [(0,pX p),(1,qS LA L.length cL)] rfl (aA (lA 2 46 (pC p) hs (fun b1 w2 h3 hs=>lA 4 43 ([qF,uV 0,eS,uV 0,eS]) hs (fun b4 w5 h6 hs=>lL hs [.v 5 (iV 0)] (ae (ab hs [.o 6 (pX p) 1 0 9] (lC 7 hs (mB isb sm hIs d p t hd _ _ hs.g hs.f.r.1 hS) ?_)))))));rintro _ w7 h8 hs ⟨ec,rfl,hec⟩;cases hb9:((ec:Int) != (0:Int))
 ·
  have phb9:=aI hb9;exact lB 8 hb9 (af (cK (ab hs [.o 10 (pX p) 1 0 9,.m 11 1] (ah 12 hs (uN (fun s=>isb s=true) LA cL L hLl cc hc3 hcm hLq d p t _ _ hs.g hs.f.r.1 (fY hec oM).1 (fY hec oM).2 hs.f.2.1 hs.f.1) (fun _ _ hs=>lL hs [.v 13 (qv ((ba L d t).2)),.v 14 (iV ((ba L d t).1))] (lP 0 0 (qc ((ba L d t).2)) hs (fun _ hs=>lL hs [.m 5 14] (ac hs [(0,0,5)] (.tuple #[qv ((ba L d t).2),iV ((ba L d t).1)]) (⟨_,_,rfl,.inl ⟨(fY hec oM).1,(fY hec oM).2,rfl,rfl⟩⟩)))))))))
 have phb9:=aR hb9;exact lB 8 hb9 (am (ab hs [.v 9 (.agg #[qF,uV 0,eS,uV 0,eS])] (lP 0 0 ([qF,uV 0,eS,uV 0,eS]) hs (fun _ hs=>lL hs [.v 5 (iV 1)] (ac hs [(0,0,5)] (.tuple #[.agg #[qF,uV 0,eS,uV 0,eS],iV 1]) (⟨_,_,rfl,.inr ⟨Cc hec oM,rfl,rfl⟩⟩))))))
theorem Ej (op:Int)(w:World)(h:Hp)(g:G w h):CV 81 #[iV op] w h (iV (eg op)):=by
 have hs:=sS g;refine go Tryz.func81 [(0,iV op)] rfl (ab hs [.v 2 (iV 0)] (ae (ab hs [.m 3 0] (bc (cQ (aA ?_))))));cases hb1:((op:Int) == (1:Int))
 ·
  have phb1:=ag hb1;refine lB 5 hb1 (lL hs [.m 4 5] (af (kQ ?_)));cases hb2:((op:Int) == (2:Int))
  ·
   have phb2:=ag hb2;refine lB 6 hb2 (lL hs [.m 4 6] (af (cQ (aA ?_))));cases hb3:((op:Int) == (7:Int))
   ·
    have phb3:=ag hb3;refine lB 8 hb3 (lL hs [.m 7 8] (af (aA ?_)));cases hb4:((op:Int) == (8:Int))
    ·
     have phb4:=ag hb4;refine lB 9 hb4 (lL hs [.m 7 9] (af (aA ?_)));cases hb5:((op:Int) == (9:Int))
     ·
      have phb5:=ag hb5;refine lB 10 hb5 (lL hs [.m 7 10] (af (aA ?_)));cases hb6:((op:Int) == (10:Int))
      ·
       have phb6:=ag hb6;refine lB 11 hb6 (lL hs [.m 7 11] (af (kQ ?_)));cases hb7:((op:Int) == (11:Int))
       ·
        have phb7:=ag hb7;refine lB 12 hb7 (lL hs [.m 7 12] (af (cQ (aA ?_))));cases hb8:((op:Int) == (3:Int))
        ·
         have phb8:=ag hb8;refine lB 14 hb8 (lL hs [.m 13 14] (af (aA ?_)));cases hb9:((op:Int) == (4:Int))
         ·
          have phb9:=ag hb9;refine lB 15 hb9 (lL hs [.m 13 15] (af (aA ?_)));cases za:((op:Int) == (5:Int))
          ·
           have ze:=ag za;refine lB 16 za (lL hs [.m 13 16] (af (aA ?_)));cases zb:((op:Int) == (6:Int))
           ·
            have zf:=ag zb;refine lB 17 zb (lL hs [.m 13 17] (af (aA ?_)));cases zc:((op:Int) == (12:Int))
            ·
             have zg:=ag zc;refine lB 18 zc (lL hs [.m 13 18] (af (kQ ?_)));cases zd:((op:Int) == (13:Int))
             ·
              have zi:=ag zd;exact lB 19 zd (lL hs [.m 13 19] (af (cK (ab hs [.v 2 (iV (-1))] (ac hs [] (iV (-1)) (congrArg (Value.int .i64) (by have:=aG op;omega)))))))
             have zi:=eq_of_beq zd;exact lB 19 zd (lL hs [.m 13 19] (am (ab hs [.v 2 (iV 2)] (ac hs [] (iV 2) (congrArg (Value.int .i64) (by have:=aG op;omega))))))
            have zg:=eq_of_beq zc;exact lB 18 zc (lL hs [.m 13 18] (am (cK (cf (ab hs [.v 2 (iV 2)] (ac hs [] (iV 2) (congrArg (Value.int .i64) (by have:=aG op;omega))))))))
           have zf:=eq_of_beq zb;exact lB 17 zb (lL hs [.m 13 17] (am (cK (cf (ab hs [.v 2 (iV 2)] (ac hs [] (iV 2) (congrArg (Value.int .i64) (by have:=aG op;omega))))))))
          have ze:=eq_of_beq za;exact lB 16 za (lL hs [.m 13 16] (am (cK (cf (ab hs [.v 2 (iV 2)] (ac hs [] (iV 2) (congrArg (Value.int .i64) (by have:=aG op;omega))))))))
         have phb9:=eq_of_beq hb9;exact lB 15 hb9 (lL hs [.m 13 15] (am (cK (cf (ab hs [.v 2 (iV 2)] (ac hs [] (iV 2) (congrArg (Value.int .i64) (by have:=aG op;omega))))))))
        have phb8:=eq_of_beq hb8;exact lB 14 hb8 (lL hs [.m 13 14] (am (cK (cf (ab hs [.v 2 (iV 2)] (ac hs [] (iV 2) (congrArg (Value.int .i64) (by have:=aG op;omega))))))))
       have phb7:=eq_of_beq hb7;exact lB 12 hb7 (lL hs [.m 7 12] (am (ab hs [.v 2 (iV 1)] (ac hs [] (iV 1) (congrArg (Value.int .i64) (by have:=aG op;omega))))))
      have phb6:=eq_of_beq hb6;exact lB 11 hb6 (lL hs [.m 7 11] (am (cK (cf (ab hs [.v 2 (iV 1)] (ac hs [] (iV 1) (congrArg (Value.int .i64) (by have:=aG op;omega))))))))
     have phb5:=eq_of_beq hb5;exact lB 10 hb5 (lL hs [.m 7 10] (am (cK (cf (ab hs [.v 2 (iV 1)] (ac hs [] (iV 1) (congrArg (Value.int .i64) (by have:=aG op;omega))))))))
    have phb4:=eq_of_beq hb4;exact lB 9 hb4 (lL hs [.m 7 9] (am (cK (cf (ab hs [.v 2 (iV 1)] (ac hs [] (iV 1) (congrArg (Value.int .i64) (by have:=aG op;omega))))))))
   have phb3:=eq_of_beq hb3;exact lB 8 hb3 (lL hs [.m 7 8] (am (cK (cf (ab hs [.v 2 (iV 1)] (ac hs [] (iV 1) (congrArg (Value.int .i64) (by have:=aG op;omega))))))))
  have phb2:=eq_of_beq hb2;exact lB 6 hb2 (lL hs [.m 4 6] (am (ab hs [.v 2 (iV 0)] (ac hs [] (iV 0) (congrArg (Value.int .i64) (by have:=aG op;omega))))))
 have phb1:=eq_of_beq hb1;exact lB 5 hb1 (lL hs [.m 4 5] (am (cK (cf (ab hs [.v 2 (iV 0)] (ac hs [] (iV 0) (congrArg (Value.int .i64) (by have:=aG op;omega))))))))
theorem wF (z:Int)(A:Option Addr)(c:Nat)(w:World)(h:Hp)(g:G w h)(hA:S3 A (lim (aa z)) h):CV 147 #[.agg #[.bool (ai z),.slice A ((lim (aa z)).length) c]] w h (iV z.sign):=by
 have hs:=((sS g).aS hA);have hlz:0<(lim (aa z)).length↔0<aa z:=ck
 unfold aa at hlz
 refine go Tryz.func147 [(0,.agg #[.bool (ai z),qS A ((lim (aa z)).length) c])] rfl (aA (lA 1 26 ([.bool (ai z),qS A ((lim (aa z)).length) c]) hs (fun b1 w2 h3 hs=>lL hs [.v 2 (iV 0)] (ae (kZ (ab hs [.v 4 (qP b1 1),.o 5 (qS A ((lim (aa z)).length) c) 0 1 1,.v 6 (nV ((lim (aa z)).length))] ?_))))));cases hb4:((((lim (aa z)).length:Nat):Int) == (0:Int))
 ·
  have phb4:=ag hb4;refine lB 7 hb4 (lL hs [.m 3 7] (af (ab hs [.v 9 (pB b1),.o 10 (.bool (ai z)) 0 0 1,.m 8 10] (lN ?_))));cases hb5:(ai z)
  ·
   try rw[hb5] at hs
   try rw[hb5]
   have phb5:=az hb5;exact cF (cK (ab hs [.v 2 (iV 1)] (ac hs [] (iV 1) (congrArg (Value.int .i64) (by first|(rw[show z=0 by (unfold aa at *;omega)];rfl)|exact (Int.sign_eq_neg_one_of_neg oM).symm|exact (Int.sign_eq_one_of_pos (by unfold aa at *;omega)).symm)))))
  try rw[hb5] at hs
  try rw[hb5]
  have phb5:=a7 hb5;exact cf (ab hs [.v 2 (iV (-1))] (ac hs [] (iV (-1)) (congrArg (Value.int .i64) (by first|(rw[show z=0 by (unfold aa at *;omega)];rfl)|exact (Int.sign_eq_neg_one_of_neg oM).symm|exact (Int.sign_eq_one_of_pos (by unfold aa at *;omega)).symm))))
 have phb4:=eq_of_beq hb4;exact lB 7 hb4 (lL hs [.m 3 7] (am (ab hs [.v 2 (iV 0)] (ac hs [] (iV 0) (congrArg (Value.int .i64) (by first|(rw[show z=0 by (unfold aa at *;omega)];rfl)|exact (Int.sign_eq_neg_one_of_neg oM).symm|exact (Int.sign_eq_one_of_pos (by unfold aa at *;omega)).symm))))))
theorem Fa (z:Int)(A:Option Addr)(c n:Nat)(D:Option Addr)(d:Nat)(hc:(lim (aa z)).length≤c)(hd:(lim n).length≤d)(w:World)(h:Hp)(g:G w h)(hA:S3 A (lim (aa z)) h)(hD:S3 D (lim n) h):CV 109 #[.agg #[.bool (ai z),.slice A ((lim (aa z)).length) c,.slice D ((lim n).length) d]] w h (iV z.sign):=by
 have hs:=(((sS g).aS hA).aS hD);exact go Tryz.func109 [(0,.agg #[.bool (ai z),qS A ((lim (aa z)).length) c,qS D ((lim n).length) d])] rfl (aA (lA 1 28 ([.bool (ai z),qS A ((lim (aa z)).length) c,qS D ((lim n).length) d]) hs (fun b1 w2 h3 hs=>lL hs [.v 2 (iV 0)] (aJ (lL hs [.v 3 (pB b1),.o 4 (.agg #[.bool (ai z),qS A ((lim (aa z)).length) c]) 0 0 2] (ah 5 hs (wF z A c _ _ hs.g hs.f.2.1) (fun w4 h5 hs=>lL hs [.m 2 5] (ac hs [] (iV z.sign) rfl))))))))
end Go.Proofs.YtghfcfnkglnchaaGreatDoor
