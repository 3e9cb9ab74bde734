/- Laws and contracts that the card of this claim stands on, part 5. No condition of ours. -/
import Derived.Test.YtmkcmnhnmajheaaGreatDoorPl0
import Derived.Test.YtmkcmnhnmajheaaGreatDoorPl1
import Derived.Test.YtmkcmnhnmajheaaGreatDoorPl2
import Derived.Test.YtmkcmnhnmajheaaGreatDoorPl3
set_option maxRecDepth 100000
set_option maxHeartbeats 4000000
namespace Go.Proofs.YtmkcmnhnmajheaaGreatDoor
open Go.RowKit
open Go.RowKit Go.Shelf
theorem tPowerN (a:Rat)(n:Int)(K:Nat)(hK:14*K+20≤100000000)(ha:LQ K a)(hn : -13≤n∧n≤13)(hs:n<0)(ha0:a≠0)(w:World)(h:Hp)(g:G w h)(tb:Tab h):CV 115 #[qv a,iV n] w h (.tuple #[qv (powq a n),.bool true]):=by
 have hs:=((sS g).aB tb);obtain ⟨m,hm⟩:∃ m:Nat,m=n.natAbs:=⟨_,rfl⟩;have hm13:m≤13:=by omega
 refine go Tryz.func115 [(0,qv a),(1,iV n)] rfl (cSL (lA 2 55 (qc a) hs (fun b1 w2 h3 hs=>lA 4 55 ([qF,uV 0,eS,uV 0,eS]) hs (fun b4 w5 h6 hs=>lL hs [.v 5 qF] (lNS (lC 7 hs (fOf 1 oM oM _ _ hs.g) ?_))))));rintro _ w7 h8 hs rfl;refine lA 6 55 ([qF,uV 0,eS,uV 0,eS]) hs (fun b9 _ zd hs=>lP 0 0 (qc ((1:Int):Rat)) hs (fun _ hs=>lN (cQ (cSL (lL hs [.m 8 1,.m 9 1] (lI 10 (0-n) ?_))))));refine lV 11 (iV (max (n:Int) (0-n:Int))) ?_ (hr:=rint (n:=(if (0-n:Int)>(n:Int) then (0-n:Int) else (n:Int))) kR (by simp only[imax2]));refine lL hs [.v 12 (iV 0)] (lN (kZ ?_));refine cTo _ (CG.loop (fun μ_ Γ w_=>∃ (k:Nat) (h_:Hp),μ_=m-k∧Γ=[(1,iV n),(2,pB b1),(4,pB b4),(5,qF),(6,pB b9),(11,iV (max (n:Int) (0-n:Int))),(12,nV k)]∧SS w h w_ h_ [⟨b9,55,qc (powN a k)⟩,⟨b4,55,[qF,uV 0,eS,uV 0,eS]⟩,⟨b1,55,qc a⟩] [] [fun h_=>Tab h_]∧k≤m) _ ⟨0,zd,rfl,rfl,hs.to _ _,Nat.zero_le _⟩ ?_);rintro _ _ _ ⟨k,_,hm15,rfl,hs,hk⟩;have hkK:k*K≤13*K:=Nat.mul_le_mul_right _ oM;have hpk:=lq_powN ha k;refine cSL ?_;cases za:(decide ((k:Int)<(max (n:Int) (0-n:Int):Int)))
 ·
  have zb:=oF za;refine lB 13 za (lN (cQ (cIF (CG.exit ?_))))
  show CG _ _ _ _ _ _ _ _
  refine cQ (cSL (lL hs [.m 18 1] ?_));have ⟨zc,phb17⟩:=dF (p:=(0:Int)≤(n:Int)) oM;refine lB 19 zc (lN (cIF (cK (cQ (cR 5 [] mixed hs al_nil ?_)))));refine eO 1 22 [(0,0,5)] (qv (powN a k)) hs (eC 0 21 hs (fun _ _ hs=>fOf 1 oM oM _ _ hs.g) ?_);rintro _ _ _ _ _ hs rfl;have hq20:=LQ.div (LQ.lit (z:=1) kD) hpk;refine eC 2 23 hs (fun _ _ hs=>fDivN ((1:Int):Rat) (powN a k) (LQ.mono (LQ.lit (z:=1) kD) oM) (LQ.mono hpk oM) (num_nz (powN_nz ha0 k)) _ _ hs.g hs.f.1) ?_;rintro _ _ _ _ _ hs rfl;exact eV 3 24 (qv (((1:Int):Rat)/(powN a k))) (eV 4 25 qT (eD0 hs (fun _ _ hs=>tP 5 1 0 (qc (((1:Int):Rat)/(powN a k))) hs (fun _ hs=>tV 6 5 qT (tN (kX (hs.ret [(1,0,5)] (.tuple #[qv (((1:Int):Rat)/(powN a k)),qT]) (by unfold powq;rw[if_neg oM,show n.natAbs=k by omega]))))))))
 have zb:=oT za;refine lB 13 za (lN (cQ (cIT (cK (cQ (kZ (kQ (lL hs [.o 14 (qv (powN a k)) 0 0 5,.o 15 (qv a) 2 0 5] ?_))))))));have hq26:=LQ.mul hpk ha;refine lC 16 hs (fMul (powN a k) a (LQ.mono hpk oM) (LQ.mono ha oM) _ _ hs.g hs.f.1) ?_;rintro _ _ ze hs rfl;refine lP 0 0 (qc ((powN a k)*a)) hs (fun _ hs=>lN (kQ (lIn 17 ((k:Nat)+1) (k+1) ?_)));refine lL hs [.m 12 17] (lD ?_);intro a_ ka;refine ⟨_,_,?_,⟨k+1,ze,rfl,rfl,hs.to _ _,oM⟩,ka.to _ kR⟩
 omega
theorem tPowerZ (a:Rat)(n:Int)(K:Nat)(hK:14*K+20≤100000000)(ha:LQ K a)(hn : -13≤n∧n≤13)(hs:n<0)(ha0:a=0)(w:World)(h:Hp)(g:G w h)(tb:Tab h):CV 115 #[qv a,iV n] w h (.tuple #[qv 0,.bool false]):=by
 have hs:=((sS g).aB tb);obtain ⟨m,hm⟩:∃ m:Nat,m=n.natAbs:=⟨_,rfl⟩;have hm13:m≤13:=by omega
 refine go Tryz.func115 [(0,qv a),(1,iV n)] rfl (cSL (lA 2 55 (qc a) hs (fun b1 w2 h3 hs=>lA 4 55 ([qF,uV 0,eS,uV 0,eS]) hs (fun b4 w5 h6 hs=>lL hs [.v 5 qF] (lNS (lC 7 hs (fOf 1 oM oM _ _ hs.g) ?_))))));rintro _ w7 h8 hs rfl;refine lA 6 55 ([qF,uV 0,eS,uV 0,eS]) hs (fun b9 _ zd hs=>lP 0 0 (qc ((1:Int):Rat)) hs (fun _ hs=>lN (cQ (cSL (lL hs [.m 8 1,.m 9 1] (lI 10 (0-n) ?_))))));refine lV 11 (iV (max (n:Int) (0-n:Int))) ?_ (hr:=rint (n:=(if (0-n:Int)>(n:Int) then (0-n:Int) else (n:Int))) kR (by simp only[imax2]));refine lL hs [.v 12 (iV 0)] (lN (kZ ?_));refine cTo _ (CG.loop (fun μ_ Γ w_=>∃ (k:Nat) (h_:Hp),μ_=m-k∧Γ=[(1,iV n),(2,pB b1),(4,pB b4),(5,qF),(6,pB b9),(11,iV (max (n:Int) (0-n:Int))),(12,nV k)]∧SS w h w_ h_ [⟨b9,55,qc (powN a k)⟩,⟨b4,55,[qF,uV 0,eS,uV 0,eS]⟩,⟨b1,55,qc a⟩] [] [fun h_=>Tab h_]∧k≤m) _ ⟨0,zd,rfl,rfl,hs.to _ _,Nat.zero_le _⟩ ?_);rintro _ _ _ ⟨k,_,hm15,rfl,hs,hk⟩;have hkK:k*K≤13*K:=Nat.mul_le_mul_right _ oM;have hpk:=lq_powN ha k;refine cSL ?_;cases za:(decide ((k:Int)<(max (n:Int) (0-n:Int):Int)))
 ·
  have zb:=oF za;refine lB 13 za (lN (cQ (cIF (CG.exit ?_))))
  show CG _ _ _ _ _ _ _ _
  refine cQ (cSL (lL hs [.m 18 1] ?_));have ⟨zc,phb17⟩:=dF (p:=(0:Int)≤(n:Int)) oM;refine lB 19 zc (lN (cIF (cK (cQ (cR 5 [] mixed hs al_nil ?_)))));refine eO 1 22 [(0,0,5)] (qv (powN a k)) hs (eC 0 21 hs (fun _ _ hs=>fOf 1 oM oM _ _ hs.g) ?_);rintro _ _ _ _ _ hs rfl;refine eC 2 23 hs (fun _ _ hs=>fDivB ((1:Int):Rat) (powN a k) (by rw[ha0];exact powN_zero oM) _ _ hs.g) ?_;rintro _ _ _ _ _ hs rfl;exact eV 3 24 (qv 0) (eV 4 25 qF (eD0 hs (fun _ _ hs=>tP 5 1 0 (qc 0) hs (fun _ hs=>tV 6 5 qF (tN (kX (hs.ret [(1,0,5)] (.tuple #[qv 0,qF]) rfl)))))))
 have zb:=oT za;refine lB 13 za (lN (cQ (cIT (cK (cQ (kZ (kQ (lL hs [.o 14 (qv (powN a k)) 0 0 5,.o 15 (qv a) 2 0 5] ?_))))))));have hq25:=LQ.mul hpk ha;refine lC 16 hs (fMul (powN a k) a (LQ.mono hpk oM) (LQ.mono ha oM) _ _ hs.g hs.f.1) ?_;rintro _ _ ze hs rfl;refine lP 0 0 (qc ((powN a k)*a)) hs (fun _ hs=>lN (kQ (lIn 17 ((k:Nat)+1) (k+1) ?_)));refine lL hs [.m 12 17] (lD ?_);intro a_ ka;refine ⟨_,_,?_,⟨k+1,ze,rfl,rfl,hs.to _ _,oM⟩,ka.to _ kR⟩
 omega
theorem tPower (a:Rat)(n:Int)(K:Nat)(hK:14*K+20≤100000000)(ha:LQ K a)(hn : -13≤n∧n≤13)(ho:n<0→a≠0)(w:World)(h:Hp)(g:G w h)(tb:Tab h):CV 115 #[qv a,iV n] w h (.tuple #[qv (powq a n),.bool true]):=by
  by_cases hs:0≤n
  · exact tPowerP a n K hK ha hn hs w h g tb
  · exact tPowerN a n K hK ha hn oM (ho oM) w h g tb
theorem tApplyT (s:Stp)(a b:Rat)(K:Nat)(hK:14*K+20≤100000000)(ha:LQ K a)(hb:LQ K b)(hq:LQ 1 s.q)(hK1:1≤K)(hop:1≤s.op∧s.op≤13∧s.op≠2)(hn:s.op=8 → -12≤s.n∧s.n≤12)(hok:okq s.op s.n a b)(w:World)(h:Hp)(g:G w h)(tb:Tab h):CV 95 #[.agg #[iV s.op,iV s.a,iV s.b,iV s.n,.bool (ineg s.q.num),uV (lo (iabs s.q.num)),.string (hi (iabs s.q.num)),uV (lo (qd s.q)),.string (hi (qd s.q))],qv a,qv b] w h (.tuple #[qv (opv s.op s.n s.q a b),.bool true]):=by
 have hs:=((sS g).aB tb);refine go Tryz.func95 [(0,.agg #[iV s.op,iV s.a,iV s.b,iV s.n,.bool (ineg s.q.num),uV (lo (iabs s.q.num)),.string (hi (iabs s.q.num)),uV (lo (qd s.q)),.string (hi (qd s.q))]),(1,qv a),(2,qv b)] rfl (cSL (lA 3 110 ([iV s.op,iV s.a,iV s.b,iV s.n,.bool (ineg s.q.num),uV (lo (iabs s.q.num)),.string (hi (iabs s.q.num)),uV (lo (qd s.q)),.string (hi (qd s.q))]) hs (fun b1 w2 h3 hs=>lA 4 55 (qc a) hs (fun b4 w5 h6 hs=>lA 5 55 (qc b) hs (fun b7 w8 h9 hs=>lA 6 55 ([qF,uV 0,eS,uV 0,eS]) hs (fun b10 _ _ hs=>lL hs [.v 7 qF] (lN (cQ (cSL (lL hs [.v 8 (pB b1),.o 9 (iV s.op) 3 0 1] (lN (kZ (cSL ?_)))))))))))));cases za:((s.op:Int) == (1:Int))
 ·
  have zo:=neOfBeq za;refine lB 11 za (lL hs [.m 10 11] (lN (cIF (cSL ?_))));cases zb:((s.op:Int) == (3:Int))
  ·
   have zp:=neOfBeq zb;refine lB 15 zb (lL hs [.m 14 15] (lN (cIF (cSL ?_))));cases zc:((s.op:Int) == (4:Int))
   ·
    have zq:=neOfBeq zc;refine lB 20 zc (lL hs [.m 19 20] (lN (cIF (cSL ?_))));cases zd:((s.op:Int) == (5:Int))
    ·
     have zr:=neOfBeq zd;refine lB 25 zd (lL hs [.m 24 25] (lN (cIF (cSL ?_))));cases ze:((s.op:Int) == (6:Int))
     ·
      have zs:=neOfBeq ze;refine lB 30 ze (lL hs [.m 29 30] (lN (cIF (cSL ?_))));cases zf:((s.op:Int) == (7:Int))
      ·
       have zt:=neOfBeq zf;refine lB 37 zf (lL hs [.m 36 37] (lN (cIF (cSL ?_))));cases zg:((s.op:Int) == (8:Int))
       ·
        have zu:=neOfBeq zg;refine lB 41 zg (lL hs [.m 40 41] (lN (cIF (cSL ?_))));cases zi:((s.op:Int) == (9:Int))
        ·
         have zv:=neOfBeq zi;refine lB 49 zi (lL hs [.m 48 49] (lN (cIF (cSL ?_))));cases zj:((s.op:Int) == (10:Int))
         ·
          have zw:=neOfBeq zj;refine lB 53 zj (lL hs [.m 52 53] (lN (cIF (cSL ?_))));cases zk:((s.op:Int) == (11:Int))
          ·
           have zx:=neOfBeq zk;refine lB 58 zk (lL hs [.m 57 58] (lN (cIF (cSL ?_))));cases zl:((s.op:Int) == (12:Int))
           ·
            have zA:=neOfBeq zl;refine lB 68 zl (lL hs [.m 67 68] (lN (cIF (cK (cSL (lL hs [.o 72 (qv a) 2 0 5,.o 73 (qv b) 1 0 5] (lC 74 hs (fMin a b (LQ.mono ha oM) (LQ.mono hb oM) _ _ hs.g) ?_)))))));rintro _ _ _ hs rfl;exact lP 0 0 (qc (minR a b)) hs (fun _ hs=>lL hs [.v 7 qT] (lN (kX (hs.ret [(0,0,5)] (.tuple #[qv (minR a b),qT]) (by rw[show s.op=13 by omega];rfl)))))
           have zA:=eq_of_beq zl;refine lB 68 zl (lL hs [.m 67 68] (lN (cIT (cSL (lL hs [.o 69 (qv a) 2 0 5,.o 70 (qv b) 1 0 5] (lC 71 hs (fMax a b (LQ.mono ha oM) (LQ.mono hb oM) _ _ hs.g) ?_))))));rintro _ _ _ hs rfl;exact lP 0 0 (qc (maxR a b)) hs (fun _ hs=>lL hs [.v 7 qT] (lN (kX (hs.ret [(0,0,5)] (.tuple #[qv (maxR a b),qT]) (by rw[show s.op=12 by omega];rfl)))))
          have zx:=eq_of_beq zk;refine lB 58 zk (lL hs [.m 57 58] (lN (cIT (cQ (cR 8 [] mixed hs al_nil ?_)))));refine eO 0 59 [(2,0,5)] (qv a) hs (eO 1 60 [(2,0,5)] (qv a) hs ?_);have zm:LQ (K) (qabs a):=LQ.abs ha;refine eC 2 61 hs (fun _ _ hs=>fAbs a (LQ.mono ha oM) _ _ hs.g) ?_;rintro _ _ _ _ _ hs rfl;refine eC 3 62 hs (fun _ _ hs=>fOf 1 oM oM _ _ hs.g) ?_;rintro _ _ _ _ _ hs rfl;have zn:=LQ.add zm (LQ.lit (z:=1) kD);refine eC 4 63 hs (fun _ _ hs=>fAdd (qabs a) ((1:Int):Rat) (LQ.mono zm oM) (LQ.mono (LQ.lit (z:=1) kD) oM) _ _ hs.g hs.f.1) ?_;rintro _ _ _ _ _ hs rfl;have hq38:=LQ.div ha zn;refine eC 5 64 hs (fun _ _ hs=>fDivN a ((qabs a)+((1:Int):Rat)) (LQ.mono ha oM) (LQ.mono zn oM) (abs_one_ne a) _ _ hs.g hs.f.1) ?_;rintro _ _ _ _ _ hs rfl;exact eV 6 65 (qv (a/((qabs a)+((1:Int):Rat)))) (eV 7 66 qT (eD0 hs (fun _ _ hs=>tP 8 0 0 (qc (a/((qabs a)+((1:Int):Rat)))) hs (fun _ hs=>tV 9 7 qT (tN (kX (hs.ret [(0,0,5)] (.tuple #[qv (a/((qabs a)+((1:Int):Rat))),qT]) (by rw[show s.op=11 by omega];rfl))))))))
         have zw:=eq_of_beq zj;refine lB 53 zj (lL hs [.m 52 53] (lN (cIT (cSL (lL hs [.o 54 (qv a) 2 0 5,.v 55 (qv 0)] (lC 56 hs (fMax a 0 (LQ.mono ha oM) (LQ.mono (LQ.lit (z:=0) kD) oM) _ _ hs.g) ?_))))));rintro _ _ _ hs rfl;exact lP 0 0 (qc (maxR a 0)) hs (fun _ hs=>lL hs [.v 7 qT] (lN (kX (hs.ret [(0,0,5)] (.tuple #[qv (maxR a 0),qT]) (by rw[show s.op=10 by omega];rfl)))))
        have zv:=eq_of_beq zi;refine lB 49 zi (lL hs [.m 48 49] (lN (cIT (cSL (lL hs [.o 50 (qv a) 2 0 5] ?_)))));have hq47:LQ (K) (qabs a):=LQ.abs ha;refine lC 51 hs (fAbs a (LQ.mono ha oM) _ _ hs.g) ?_;rintro _ _ _ hs rfl;exact lP 0 0 (qc (qabs a)) hs (fun _ hs=>lL hs [.v 7 qT] (lN (kX (hs.ret [(0,0,5)] (.tuple #[qv (qabs a),qT]) (by rw[show s.op=9 by omega];rfl)))))
       have zu:=eq_of_beq zg;refine lB 41 zg (lL hs [.m 40 41] (lN (cIT (cSL (lL hs [.o 42 (qv a) 2 0 5,.v 43 (qP b1 3),.o 44 (iV s.n) 3 3 1] (lC 45 hs (tPower a s.n K hK ha (by have:=hn oM;omega) (hok.2 oM) _ _ hs.g hs.f.1) ?_))))));rintro _ _ _ hs rfl;exact lL hs [.v 46 (qv (powq a s.n)),.v 47 qT] (lP 0 0 (qc (powq a s.n)) hs (fun _ hs=>lL hs [.m 7 47] (lN (kX (hs.ret [(0,0,5)] (.tuple #[qv (powq a s.n),qT]) (by rw[show s.op=8 by omega];rfl))))))
      have zt:=eq_of_beq zf;refine lB 37 zf (lL hs [.m 36 37] (lN (cIT (cSL (lL hs [.o 38 (qv a) 2 0 5] ?_)))));have hq54:LQ (K) (-a):=LQ.neg ha;refine lC 39 hs (fNeg a (LQ.mono ha oM) _ _ hs.g) ?_;rintro _ _ _ hs rfl;exact lP 0 0 (qc (-a)) hs (fun _ hs=>lL hs [.v 7 qT] (lN (kX (hs.ret [(0,0,5)] (.tuple #[qv (-a),qT]) (by rw[show s.op=7 by omega];rfl)))))
     have zs:=eq_of_beq ze;refine lB 30 ze (lL hs [.m 29 30] (lN (cIT (cSL (lL hs [.o 31 (qv a) 2 0 5,.o 32 (qv b) 1 0 5] ?_)))));have hq58:=LQ.div ha hb;refine lC 33 hs (fDivN a b (LQ.mono ha oM) (LQ.mono hb oM) (num_nz (hok.1 oM)) _ _ hs.g hs.f.1) ?_;rintro _ _ _ hs rfl;exact lL hs [.v 34 (qv (a/b)),.v 35 qT] (lP 0 0 (qc (a/b)) hs (fun _ hs=>lL hs [.m 7 35] (lN (kX (hs.ret [(0,0,5)] (.tuple #[qv (a/b),qT]) (by rw[show s.op=6 by omega];rfl))))))
    have zr:=eq_of_beq zd;refine lB 25 zd (lL hs [.m 24 25] (lN (cIT (cSL (lL hs [.o 26 (qv a) 2 0 5,.o 27 (qv b) 1 0 5] ?_)))));have hq62:=LQ.mul ha hb;refine lC 28 hs (fMul a b (LQ.mono ha oM) (LQ.mono hb oM) _ _ hs.g hs.f.1) ?_;rintro _ _ _ hs rfl;exact lP 0 0 (qc (a*b)) hs (fun _ hs=>lL hs [.v 7 qT] (lN (kX (hs.ret [(0,0,5)] (.tuple #[qv (a*b),qT]) (by rw[show s.op=5 by omega];rfl)))))
   have zq:=eq_of_beq zc;refine lB 20 zc (lL hs [.m 19 20] (lN (cIT (cSL (lL hs [.o 21 (qv a) 2 0 5,.o 22 (qv b) 1 0 5] ?_)))));have hq66:=LQ.sub ha hb;refine lC 23 hs (fSub a b (LQ.mono ha oM) (LQ.mono hb oM) _ _ hs.g hs.f.1) ?_;rintro _ _ _ hs rfl;exact lP 0 0 (qc (a-b)) hs (fun _ hs=>lL hs [.v 7 qT] (lN (kX (hs.ret [(0,0,5)] (.tuple #[qv (a-b),qT]) (by rw[show s.op=4 by omega];rfl)))))
  have zp:=eq_of_beq zb;refine lB 15 zb (lL hs [.m 14 15] (lN (cIT (cSL (lL hs [.o 16 (qv a) 2 0 5,.o 17 (qv b) 1 0 5] ?_)))));have hq70:=LQ.add ha hb;refine lC 18 hs (fAdd a b (LQ.mono ha oM) (LQ.mono hb oM) _ _ hs.g hs.f.1) ?_;rintro _ _ _ hs rfl;exact lP 0 0 (qc (a+b)) hs (fun _ hs=>lL hs [.v 7 qT] (lN (kX (hs.ret [(0,0,5)] (.tuple #[qv (a+b),qT]) (by rw[show s.op=3 by omega];rfl)))))
 have zo:=eq_of_beq za;exact lB 11 za (lL hs [.m 10 11] (lN (cIT (cSL (lL hs [.v 12 (qP b1 4),.o 13 (qv s.q) 3 4 5] (lP 0 0 (qc s.q) hs (fun _ hs=>lL hs [.v 7 qT] (lN (kX (hs.ret [(0,0,5)] (.tuple #[qv s.q,qT]) (by rw[show s.op=1 by omega];rfl)))))))))))
theorem tApply6 (s:Stp)(a b:Rat)(K:Nat)(hK:14*K+20≤100000000)(ha:LQ K a)(hb:LQ K b)(hq:LQ 1 s.q)(hK1:1≤K)(hop:s.op=6)(hz6:b=0)(w:World)(h:Hp)(g:G w h)(tb:Tab h):CV 95 #[.agg #[iV s.op,iV s.a,iV s.b,iV s.n,.bool (ineg s.q.num),uV (lo (iabs s.q.num)),.string (hi (iabs s.q.num)),uV (lo (qd s.q)),.string (hi (qd s.q))],qv a,qv b] w h (.tuple #[qv 0,.bool false]):=by
 have hs:=((sS g).aB tb);refine go Tryz.func95 [(0,.agg #[iV s.op,iV s.a,iV s.b,iV s.n,.bool (ineg s.q.num),uV (lo (iabs s.q.num)),.string (hi (iabs s.q.num)),uV (lo (qd s.q)),.string (hi (qd s.q))]),(1,qv a),(2,qv b)] rfl (cSL (lA 3 110 ([iV s.op,iV s.a,iV s.b,iV s.n,.bool (ineg s.q.num),uV (lo (iabs s.q.num)),.string (hi (iabs s.q.num)),uV (lo (qd s.q)),.string (hi (qd s.q))]) hs (fun b1 w2 h3 hs=>lA 4 55 (qc a) hs (fun b4 w5 h6 hs=>lA 5 55 (qc b) hs (fun b7 w8 h9 hs=>lA 6 55 ([qF,uV 0,eS,uV 0,eS]) hs (fun b10 _ _ hs=>lL hs [.v 7 qF] (lN (cQ (cSL (lL hs [.v 8 (pB b1),.o 9 (iV s.op) 3 0 1] (lN (kZ (cSL ?_)))))))))))));have za:((s.op:Int) == (1:Int))=false:=beqF oM;have phb13:=neOfBeq za;refine lB 11 za (lL hs [.m 10 11] (lN (cIF (cSL ?_))));have zb:((s.op:Int) == (3:Int))=false:=beqF oM;have phb14:=neOfBeq zb;refine lB 15 zb (lL hs [.m 14 15] (lN (cIF (cSL ?_))));have zc:((s.op:Int) == (4:Int))=false:=beqF oM;have phb15:=neOfBeq zc;refine lB 20 zc (lL hs [.m 19 20] (lN (cIF (cSL ?_))));have zd:((s.op:Int) == (5:Int))=false:=beqF oM;have phb16:=neOfBeq zd;refine lB 25 zd (lL hs [.m 24 25] (lN (cIF (cSL ?_))));have ze:((s.op:Int) == (6:Int))=true:=beqT oM;have phb17:=eq_of_beq ze;refine lB 30 ze (lL hs [.m 29 30] (lN (cIT (cSL (lL hs [.o 31 (qv a) 2 0 5,.o 32 (qv b) 1 0 5] (lC 33 hs (fDivB a b hz6 _ _ hs.g) ?_))))));rintro _ _ _ hs rfl;exact lL hs [.v 34 (qv 0),.v 35 qF] (lP 0 0 (qc 0) hs (fun _ hs=>lL hs [.m 7 35] (lN (kX (hs.ret [(0,0,5)] (.tuple #[qv 0,qF]) rfl)))))
theorem tApply8 (s:Stp)(a b:Rat)(K:Nat)(hK:14*K+20≤100000000)(ha:LQ K a)(hb:LQ K b)(hq:LQ 1 s.q)(hK1:1≤K)(hop:s.op=8)(hn : -12≤s.n∧s.n<0)(hz8:a=0)(w:World)(h:Hp)(g:G w h)(tb:Tab h):CV 95 #[.agg #[iV s.op,iV s.a,iV s.b,iV s.n,.bool (ineg s.q.num),uV (lo (iabs s.q.num)),.string (hi (iabs s.q.num)),uV (lo (qd s.q)),.string (hi (qd s.q))],qv a,qv b] w h (.tuple #[qv 0,.bool false]):=by
 have hs:=((sS g).aB tb);refine go Tryz.func95 [(0,.agg #[iV s.op,iV s.a,iV s.b,iV s.n,.bool (ineg s.q.num),uV (lo (iabs s.q.num)),.string (hi (iabs s.q.num)),uV (lo (qd s.q)),.string (hi (qd s.q))]),(1,qv a),(2,qv b)] rfl (cSL (lA 3 110 ([iV s.op,iV s.a,iV s.b,iV s.n,.bool (ineg s.q.num),uV (lo (iabs s.q.num)),.string (hi (iabs s.q.num)),uV (lo (qd s.q)),.string (hi (qd s.q))]) hs (fun b1 w2 h3 hs=>lA 4 55 (qc a) hs (fun b4 w5 h6 hs=>lA 5 55 (qc b) hs (fun b7 w8 h9 hs=>lA 6 55 ([qF,uV 0,eS,uV 0,eS]) hs (fun b10 _ _ hs=>lL hs [.v 7 qF] (lN (cQ (cSL (lL hs [.v 8 (pB b1),.o 9 (iV s.op) 3 0 1] (lN (kZ (cSL ?_)))))))))))));have za:((s.op:Int) == (1:Int))=false:=beqF oM;have phb13:=neOfBeq za;refine lB 11 za (lL hs [.m 10 11] (lN (cIF (cSL ?_))));have zb:((s.op:Int) == (3:Int))=false:=beqF oM;have phb14:=neOfBeq zb;refine lB 15 zb (lL hs [.m 14 15] (lN (cIF (cSL ?_))));have zc:((s.op:Int) == (4:Int))=false:=beqF oM;have phb15:=neOfBeq zc;refine lB 20 zc (lL hs [.m 19 20] (lN (cIF (cSL ?_))));have zd:((s.op:Int) == (5:Int))=false:=beqF oM;have phb16:=neOfBeq zd;refine lB 25 zd (lL hs [.m 24 25] (lN (cIF (cSL ?_))));have ze:((s.op:Int) == (6:Int))=false:=beqF oM;have phb17:=neOfBeq ze;refine lB 30 ze (lL hs [.m 29 30] (lN (cIF (cSL ?_))));have zf:((s.op:Int) == (7:Int))=false:=beqF oM;have phb18:=neOfBeq zf;refine lB 37 zf (lL hs [.m 36 37] (lN (cIF (cSL ?_))));have zg:((s.op:Int) == (8:Int))=true:=beqT oM;have phb19:=eq_of_beq zg;refine lB 41 zg (lL hs [.m 40 41] (lN (cIT (cSL (lL hs [.o 42 (qv a) 2 0 5,.v 43 (qP b1 3),.o 44 (iV s.n) 3 3 1] (lC 45 hs (tPowerZ a s.n K hK ha oM oM hz8 _ _ hs.g hs.f.1) ?_))))));rintro _ _ _ hs rfl;exact lL hs [.v 46 (qv 0),.v 47 qF] (lP 0 0 (qc 0) hs (fun _ hs=>lL hs [.m 7 47] (lN (kX (hs.ret [(0,0,5)] (.tuple #[qv 0,qF]) rfl)))))
def apv (op n:Int)(q a b:Rat):Rat:=if okq op n a b then opv op n q a b else 0
theorem tApply (s:Stp)(a b:Rat)(K:Nat)(hK:14*K+20≤100000000)(ha:LQ K a)(hb:LQ K b)(hq:LQ 1 s.q)(hK1:1≤K)(hop:1≤s.op∧s.op≤13∧s.op≠2)(hn:s.op=8 → -12≤s.n∧s.n≤12)(w:World)(h:Hp)(g:G w h)(tb:Tab h):CV 95 #[stv s,qv a,qv b] w h (.tuple #[qv (apv s.op s.n s.q a b),.bool (decide (okq s.op s.n a b))]):=by
  by_cases hok:okq s.op s.n a b
  · unfold apv;rw[if_pos hok,decide_eq_true hok];exact tApplyT s a b K hK ha hb hq hK1 hop hn hok w h g tb
  · unfold apv;rw[if_neg hok,decide_eq_false hok]
    by_cases h6:s.op=6∧b=0
    · exact tApply6 s a b K hK ha hb hq hK1 h6.1 h6.2 w h g tb
    · by_cases h8:s.op=8∧s.n<0∧a=0
      · exact tApply8 s a b K hK ha hb hq hK1 h8.1 ⟨(hn h8.1).1,h8.2.1⟩ h8.2.2 w h g tb
      · exact absurd ⟨fun x y=>h6 ⟨x,y⟩,fun x y z=>h8 ⟨x,y,z⟩⟩ hok
theorem tKinked (s:Stp)(a b:Rat)(K:Nat)(hK:K≤100000000)(ha:LQ K a)(hb:LQ K b)(w:World)(h:Hp)(g:G w h):CV 96 #[.agg #[iV s.op,iV s.a,iV s.b,iV s.n,.bool (ineg s.q.num),uV (lo (iabs s.q.num)),.string (hi (iabs s.q.num)),uV (lo (qd s.q)),.string (hi (qd s.q))],qv a,qv b] w h (.bool (decide (knk s.op a b))):=by
 have hs:=sS g;refine go Tryz.func96 [(0,.agg #[iV s.op,iV s.a,iV s.b,iV s.n,.bool (ineg s.q.num),uV (lo (iabs s.q.num)),.string (hi (iabs s.q.num)),uV (lo (qd s.q)),.string (hi (qd s.q))]),(1,qv a),(2,qv b)] rfl (cSL (lA 3 110 ([iV s.op,iV s.a,iV s.b,iV s.n,.bool (ineg s.q.num),uV (lo (iabs s.q.num)),.string (hi (iabs s.q.num)),uV (lo (qd s.q)),.string (hi (qd s.q))]) hs (fun b1 w2 h3 hs=>lA 4 55 (qc a) hs (fun b4 w5 h6 hs=>lA 5 55 (qc b) hs (fun b7 w8 h9 hs=>lL hs [.v 6 qF] (lN (cQ (cSL (lL hs [.v 7 (pB b1),.o 8 (iV s.op) 2 0 1] (lN (kZ (cQ (cSL (lL hs [.v 10 (.bool ((s.op:Int) == (9:Int))),.m 9 10] (lN ?_)))))))))))))));cases za:((s.op:Int) == (9:Int))
 ·
  try rw[za] at hs
  try rw[za]
  have ze:=neOfBeq za;refine cIF (kQ (lL hs [.v 11 (.bool ((s.op:Int) == (10:Int))),.m 9 11] (lN ?_)));cases zb:((s.op:Int) == (10:Int))
  ·
   try rw[zb] at hs
   try rw[zb]
   have zf:=neOfBeq zb;refine cIF (cQ (cSL (lL hs [.v 16 (.bool ((s.op:Int) == (12:Int))),.m 15 16] (lN ?_))));cases zc:((s.op:Int) == (12:Int))
   ·
    try rw[zc] at hs
    try rw[zc]
    have zg:=neOfBeq zc;refine cIF (kQ (lL hs [.v 17 (.bool ((s.op:Int) == (13:Int))),.m 15 17] (lN ?_)));cases zd:((s.op:Int) == (13:Int))
    ·
     try rw[zd] at hs
     try rw[zd]
     have zi:=neOfBeq zd;exact cIF (cK (cSL (lL hs [.v 6 qF] (lN (kX (hs.ret [] qF (congrArg Value.bool (knk_0 oM))))))))
    try rw[zd] at hs
    try rw[zd]
    have zi:=eq_of_beq zd;refine cIT (cSL (lL hs [.o 18 (qv a) 1 0 5,.o 19 (qv b) 0 0 5] (lC 20 hs (fCmp a b (LQ.mono ha oM) (LQ.mono hb oM) _ _ hs.g) ?_)));rintro _ _ _ hs rfl;exact lL hs [.v 21 (.bool ((cmpR a b:Int) == (0:Int))),.m 6 21] (lN (kX (hs.ret [] (.bool ((cmpR a b:Int) == (0:Int))) (congrArg Value.bool (knk_2 oM)))))
   try rw[zc] at hs
   try rw[zc]
   have zg:=eq_of_beq zc;refine cIT (cK (cIT (cSL (lL hs [.o 18 (qv a) 1 0 5,.o 19 (qv b) 0 0 5] (lC 20 hs (fCmp a b (LQ.mono ha oM) (LQ.mono hb oM) _ _ hs.g) ?_)))));rintro _ _ _ hs rfl;exact lL hs [.v 21 (.bool ((cmpR a b:Int) == (0:Int))),.m 6 21] (lN (kX (hs.ret [] (.bool ((cmpR a b:Int) == (0:Int))) (congrArg Value.bool (knk_2 oM)))))
  try rw[zb] at hs
  try rw[zb]
  have zf:=eq_of_beq zb;refine cIT (cSL (lL hs [.o 12 (qv a) 1 0 5] (lC 13 hs (fSign a (LQ.mono ha oM) _ _ hs.g) ?_)));rintro _ _ _ hs rfl;exact lL hs [.v 14 (.bool ((a.num.sign:Int) == (0:Int))),.m 6 14] (lN (kX (hs.ret [] (.bool ((a.num.sign:Int) == (0:Int))) (congrArg Value.bool (knk_1 oM)))))
 try rw[za] at hs
 try rw[za]
 have ze:=eq_of_beq za;refine cIT (cK (cIT (cSL (lL hs [.o 12 (qv a) 1 0 5] (lC 13 hs (fSign a (LQ.mono ha oM) _ _ hs.g) ?_)))));rintro _ _ _ hs rfl;exact lL hs [.v 14 (.bool ((a.num.sign:Int) == (0:Int))),.m 6 14] (lN (kX (hs.ret [] (.bool ((a.num.sign:Int) == (0:Int))) (congrArg Value.bool (knk_1 oM)))))
theorem tSlopes (s:Stp)(a b:Rat)(K:Nat)(hK:14*K+20≤100000000)(ha:LQ K a)(hb:LQ K b)(hq:LQ 1 s.q)(hK1:1≤K)(hop:1≤s.op∧s.op≤13∧s.op≠2)(hn:s.op=8 → -12≤s.n∧s.n≤12)(hok6:s.op=6→b≠0)(hok:s.op=8→s.n<0→a≠0)(w:World)(h:Hp)(g:G w h)(tb:Tab h):CV 53 #[.agg #[iV s.op,iV s.a,iV s.b,iV s.n,.bool (ineg s.q.num),uV (lo (iabs s.q.num)),.string (hi (iabs s.q.num)),uV (lo (qd s.q)),.string (hi (qd s.q))],qv a,qv b] w h (.tuple #[qv (sla s.op s.n a b),qv (slb s.op a b)]):=by
 have hs:=((sS g).aB tb);have hsg:=sign_bd a.num;refine go Tryz.func53 [(0,.agg #[iV s.op,iV s.a,iV s.b,iV s.n,.bool (ineg s.q.num),uV (lo (iabs s.q.num)),.string (hi (iabs s.q.num)),uV (lo (qd s.q)),.string (hi (qd s.q))]),(1,qv a),(2,qv b)] rfl (cSL (lA 3 110 ([iV s.op,iV s.a,iV s.b,iV s.n,.bool (ineg s.q.num),uV (lo (iabs s.q.num)),.string (hi (iabs s.q.num)),uV (lo (qd s.q)),.string (hi (qd s.q))]) hs (fun b1 w2 h3 hs=>lA 4 55 (qc a) hs (fun b4 w5 h6 hs=>lA 5 55 (qc b) hs (fun b7 w8 h9 hs=>lA 6 55 ([qF,uV 0,eS,uV 0,eS]) hs (fun za _ _ hs=>lA 7 55 ([qF,uV 0,eS,uV 0,eS]) hs (fun zb _ _ hs=>lNS (lC 10 hs (fOf 1 oM oM _ _ hs.g) ?_))))))));rintro _ _ _ hs rfl;refine lL hs [.v 11 (qv 0)] (lA 8 55 ([qF,uV 0,eS,uV 0,eS]) hs (fun zu _ _ hs=>lA 9 55 ([qF,uV 0,eS,uV 0,eS]) hs (fun ze _ _ hs=>lP 1 0 (qc ((1:Int):Rat)) hs (fun _ hs=>lP 0 0 (qc 0) hs (fun _ hs=>lN (cQ (cSL (lL hs [.v 12 (pB b1),.o 13 (iV s.op) 6 0 1] (lN (kZ (cSL ?_)))))))))));cases zf:((s.op:Int) == (3:Int))
 ·
  have zG:=neOfBeq zf;refine lB 15 zf (lL hs [.m 14 15] (lN (cIF (cSL ?_))));cases zg:((s.op:Int) == (4:Int))
  ·
   have zH:=neOfBeq zg;refine lB 19 zg (lL hs [.m 18 19] (lN (cIF (cSL ?_))));cases zi:((s.op:Int) == (5:Int))
   ·
    have zI:=neOfBeq zi;refine lB 24 zi (lL hs [.m 23 24] (lN (cIF (cSL ?_))));cases zj:((s.op:Int) == (6:Int))
    ·
     have zJ:=neOfBeq zj;refine lB 28 zj (lL hs [.m 27 28] (lN (cIF (cSL ?_))));cases zk:((s.op:Int) == (7:Int))
     ·
      have zK:=neOfBeq zk;refine lB 43 zk (lL hs [.m 42 43] (lN (cIF (cSL ?_))));cases zl:((s.op:Int) == (8:Int))
      ·
       have zL:=neOfBeq zl;refine lB 48 zl (lL hs [.m 47 48] (lN (cIF (cSL ?_))));cases zm:((s.op:Int) == (9:Int))
       ·
        have zM:=neOfBeq zm;refine lB 69 zm (lL hs [.m 68 69] (lN (cIF (cSL ?_))));cases zn:((s.op:Int) == (10:Int))
        ·
         have zN:=neOfBeq zn;refine lB 75 zn (lL hs [.m 74 75] (lN (cIF (cSL ?_))));cases zo:((s.op:Int) == (11:Int))
         ·
          have zP:=neOfBeq zo;refine lB 82 zo (lL hs [.m 81 82] (lN (cIF (cQ (cSL ?_)))));cases zp:((s.op:Int) == (12:Int))
          ·
           have zQ:=neOfBeq zp;refine lB 97 zp (lL hs [.m 96 97] (lN (cIF (kQ ?_))));cases zq:((s.op:Int) == (13:Int))
           ·
            have zR:=neOfBeq zq;refine lB 98 zq (lL hs [.m 96 98] (lN (cIF (cK (cQ ?_)))));have hsr:=hs;refine cRz 2 [] [za,zb] mixed hs al_nil (eO 0 111 [(0,0,5)] (qv 0) hs (eOz 1 112 [(0,0,5)] (qv 0) hsr hs ?_ (hM:=fun p hp=>by obtain rfl:=List.mem_singleton.1 hp;exact fun hm=>by rcases List.mem_cons.1 hm with e|hm;exact bx_ne hs.st (i:=0) (j:=3) kR kR kR e;rcases List.mem_cons.1 hm with e|hm;exact bx_ne hs.st (i:=0) (j:=2) kR kR kR e;cases hm)));refine eD0 hs (fun _ _ hs=>tP 2 3 0 (qc 0) hs (fun _ hs=>?_) (hz:=tlz_mem (List.mem_cons_self)));refine tP 3 2 0 (qc 0) hs (fun _ hs=>?_) (hz:=tlz_mem (List.mem_cons_of_mem _<|List.mem_cons_self));exact tN (kX (hs.ret [(3,0,5),(2,0,5)] (.tuple #[qv 0,qv 0]) (by rw[show s.op=1 by omega];rfl)))
           have zR:=eq_of_beq zq;refine lB 98 zq (lL hs [.m 96 98] (lN (cIT (cQ (cQ (cR 8 [] mixed hs al_nil ?_))))));refine eO 0 99 [(5,0,5)] (qv a) hs (eO 1 100 [(4,0,5)] (qv b) hs (eV 4 103 (pB b1) (eO 5 104 [(6,0,1)] (iV s.op) hs ?_)));have zA:((s.op:Int) == (12:Int))=false:=beqF oM;have phb41:=neOfBeq zA;refine eB 6 105 zA (eC 2 101 hs (fun _ _ hs=>fCmp a b (LQ.mono ha oM) (LQ.mono hb oM) _ _ hs.g) ?_);rintro _ _ _ _ _ hs rfl;cases zr:(decide ((0:Int)<(cmpR a b:Int)))
           ·
            have zS:=oF zr;refine eB 3 102 zr (eV 7 106 qT (eD0 hs (fun _ _ hs=>tN (cTo [(6,pB za),(7,pB zb),(8,pB zu),(9,pB ze),(106,qT)] ?_))));refine cIT (cQ ?_);have hsr:=hs;refine cRz 2 [] [za,zb] mixed hs al_nil (eO 0 107 [(1,0,5)] (qv ((1:Int):Rat)) hs (eOz 1 108 [(0,0,5)] (qv 0) hsr hs ?_ (hM:=fun p hp=>by obtain rfl:=List.mem_singleton.1 hp;exact fun hm=>by rcases List.mem_cons.1 hm with e|hm;exact bx_ne hs.st (i:=0) (j:=3) kR kR kR e;rcases List.mem_cons.1 hm with e|hm;exact bx_ne hs.st (i:=0) (j:=2) kR kR kR e;cases hm)));refine eD0 hs (fun _ _ hs=>tP 2 3 0 (qc ((1:Int):Rat)) hs (fun _ hs=>?_) (hz:=tlz_mem (List.mem_cons_self)));refine tP 3 2 0 (qc 0) hs (fun _ hs=>?_) (hz:=tlz_mem (List.mem_cons_of_mem _<|List.mem_cons_self));exact tN (kX (hs.ret [(3,0,5),(2,0,5)] (.tuple #[qv ((1:Int):Rat),qv 0]) (slm_29 oM oM)))
           have zS:=oT zr;refine eB 3 102 zr (eV 7 106 qF (eD0 hs (fun _ _ hs=>tN (cTo [(6,pB za),(7,pB zb),(8,pB zu),(9,pB ze),(106,qF)] ?_))));refine cIF (cK (cQ ?_));have hsr:=hs;refine cRz 2 [] [za,zb] mixed hs al_nil (eO 0 109 [(0,0,5)] (qv 0) hs (eOz 1 110 [(1,0,5)] (qv ((1:Int):Rat)) hsr hs ?_ (hM:=fun p hp=>by obtain rfl:=List.mem_singleton.1 hp;exact fun hm=>by rcases List.mem_cons.1 hm with e|hm;exact bx_ne hs.st (i:=1) (j:=3) kR kR kR e;rcases List.mem_cons.1 hm with e|hm;exact bx_ne hs.st (i:=1) (j:=2) kR kR kR e;cases hm)));refine eD0 hs (fun _ _ hs=>tP 2 3 0 (qc 0) hs (fun _ hs=>?_) (hz:=tlz_mem (List.mem_cons_self)));refine tP 3 2 0 (qc ((1:Int):Rat)) hs (fun _ hs=>?_) (hz:=tlz_mem (List.mem_cons_of_mem _<|List.mem_cons_self));exact tN (kX (hs.ret [(3,0,5),(2,0,5)] (.tuple #[qv 0,qv ((1:Int):Rat)]) (slm_30 oM oM)))
          have zQ:=eq_of_beq zp;refine lB 97 zp (lL hs [.m 96 97] (lN (cIT (cK (cIT (cQ (cQ (cR 8 [] mixed hs al_nil ?_))))))));refine eO 0 99 [(5,0,5)] (qv a) hs (eO 1 100 [(4,0,5)] (qv b) hs (eV 4 103 (pB b1) (eO 5 104 [(6,0,1)] (iV s.op) hs ?_)));have zB:((s.op:Int) == (12:Int))=true:=beqT oM;have phb57:=eq_of_beq zB;refine eB 6 105 zB (eC 2 101 hs (fun _ _ hs=>fCmp a b (LQ.mono ha oM) (LQ.mono hb oM) _ _ hs.g) ?_);rintro _ _ _ _ _ hs rfl;cases zs:(decide ((0:Int)<(cmpR a b:Int)))
          ·
           have zT:=oF zs;refine eB 3 102 zs (eV 7 106 qF (eD0 hs (fun _ _ hs=>tN (cTo [(6,pB za),(7,pB zb),(8,pB zu),(9,pB ze),(106,qF)] ?_))));refine cIF (cK (cQ ?_));have hsr:=hs;refine cRz 2 [] [za,zb] mixed hs al_nil (eO 0 109 [(0,0,5)] (qv 0) hs (eOz 1 110 [(1,0,5)] (qv ((1:Int):Rat)) hsr hs ?_ (hM:=fun p hp=>by obtain rfl:=List.mem_singleton.1 hp;exact fun hm=>by rcases List.mem_cons.1 hm with e|hm;exact bx_ne hs.st (i:=1) (j:=3) kR kR kR e;rcases List.mem_cons.1 hm with e|hm;exact bx_ne hs.st (i:=1) (j:=2) kR kR kR e;cases hm)));refine eD0 hs (fun _ _ hs=>tP 2 3 0 (qc 0) hs (fun _ hs=>?_) (hz:=tlz_mem (List.mem_cons_self)));refine tP 3 2 0 (qc ((1:Int):Rat)) hs (fun _ hs=>?_) (hz:=tlz_mem (List.mem_cons_of_mem _<|List.mem_cons_self));exact tN (kX (hs.ret [(3,0,5),(2,0,5)] (.tuple #[qv 0,qv ((1:Int):Rat)]) (slm_30 oM oM)))
          have zT:=oT zs;refine eB 3 102 zs (eV 7 106 qT (eD0 hs (fun _ _ hs=>tN (cTo [(6,pB za),(7,pB zb),(8,pB zu),(9,pB ze),(106,qT)] ?_))));refine cIT (cQ ?_);have hsr:=hs;refine cRz 2 [] [za,zb] mixed hs al_nil (eO 0 107 [(1,0,5)] (qv ((1:Int):Rat)) hs (eOz 1 108 [(0,0,5)] (qv 0) hsr hs ?_ (hM:=fun p hp=>by obtain rfl:=List.mem_singleton.1 hp;exact fun hm=>by rcases List.mem_cons.1 hm with e|hm;exact bx_ne hs.st (i:=0) (j:=3) kR kR kR e;rcases List.mem_cons.1 hm with e|hm;exact bx_ne hs.st (i:=0) (j:=2) kR kR kR e;cases hm)));refine eD0 hs (fun _ _ hs=>tP 2 3 0 (qc ((1:Int):Rat)) hs (fun _ hs=>?_) (hz:=tlz_mem (List.mem_cons_self)));refine tP 3 2 0 (qc 0) hs (fun _ hs=>?_) (hz:=tlz_mem (List.mem_cons_of_mem _<|List.mem_cons_self));exact tN (kX (hs.ret [(3,0,5),(2,0,5)] (.tuple #[qv ((1:Int):Rat),qv 0]) (slm_29 oM oM)))
         have zP:=eq_of_beq zo;refine lB 82 zo (lL hs [.m 81 82] (lN (cIT (cQ (cR 9 [] mixed hs al_nil ?_)))));refine eO 0 84 [(1,0,5)] (qv ((1:Int):Rat)) hs (eO 1 85 [(1,0,5)] (qv ((1:Int):Rat)) hs (eO 2 86 [(5,0,5)] (qv a) hs ?_));have zD:LQ (K) (qabs a):=LQ.abs ha;refine eC 3 87 hs (fun _ _ hs=>fAbs a (LQ.mono ha oM) _ _ hs.g) ?_;rintro _ _ _ _ _ hs rfl;have zE:=LQ.add (LQ.lit (z:=1) kD) zD;refine eC 4 88 hs (fun _ _ hs=>fAdd ((1:Int):Rat) (qabs a) (LQ.mono (LQ.lit (z:=1) kD) oM) (LQ.mono zD oM) _ _ hs.g hs.f.1) ?_;rintro _ _ _ _ _ hs rfl;have zt:=LQ.div (LQ.lit (z:=1) kD) zE;refine eC 5 89 hs (fun _ _ hs=>fDivN ((1:Int):Rat) (((1:Int):Rat)+(qabs a)) (LQ.mono (LQ.lit (z:=1) kD) oM) (LQ.mono zE oM) (one_abs_ne a) _ _ hs.g hs.f.1) ?_;rintro _ _ _ _ _ hs rfl;refine eV 6 83 (.tuple #[qv (((1:Int):Rat)/(((1:Int):Rat)+(qabs a))),qT]) (eV 7 90 (qv (((1:Int):Rat)/(((1:Int):Rat)+(qabs a)))) (eV 8 91 qT (eD0 hs (fun _ _ hs=>tP 9 3 0 (qc (((1:Int):Rat)/(((1:Int):Rat)+(qabs a)))) hs (fun _ hs=>tN (cTo [(6,pB za),(7,pB zb),(9,pB ze)] ?_))))));refine cQ ?_;have hsr:=hs;refine cRz 4 [] [za,zb] mixed hs al_nil (eO 0 92 [(3,0,5)] (qv (((1:Int):Rat)/(((1:Int):Rat)+(qabs a)))) hs (eO 1 93 [(3,0,5)] (qv (((1:Int):Rat)/(((1:Int):Rat)+(qabs a)))) hs (eOz 3 95 [(0,0,5)] (qv 0) hsr hs ?_ (hM:=fun p hp=>by obtain rfl:=List.mem_singleton.1 hp;exact fun hm=>by rcases List.mem_cons.1 hm with e|hm;exact bx_ne hs.st (i:=0) (j:=3) kR kR kR e;rcases List.mem_cons.1 hm with e|hm;exact bx_ne hs.st (i:=0) (j:=2) kR kR kR e;cases hm))));have hq85:=LQ.mul zt zt;refine eC 2 94 hs (fun _ _ hs=>fMul (((1:Int):Rat)/(((1:Int):Rat)+(qabs a))) (((1:Int):Rat)/(((1:Int):Rat)+(qabs a))) (LQ.mono zt oM) (LQ.mono zt oM) _ _ hs.g hs.f.1) ?_;rintro _ _ _ _ _ hs rfl;refine eD0 hs (fun _ _ hs=>tP 4 3 0 (qc ((((1:Int):Rat)/(((1:Int):Rat)+(qabs a)))*(((1:Int):Rat)/(((1:Int):Rat)+(qabs a))))) hs (fun _ hs=>?_) (hz:=tlz_mem (List.mem_cons_self)));refine tP 5 2 0 (qc 0) hs (fun _ hs=>?_) (hz:=tlz_mem (List.mem_cons_of_mem _<|List.mem_cons_self));exact tN (kX (hs.ret [(3,0,5),(2,0,5)] (.tuple #[qv ((((1:Int):Rat)/(((1:Int):Rat)+(qabs a)))*(((1:Int):Rat)/(((1:Int):Rat)+(qabs a)))),qv 0]) (by rw[show s.op=11 by omega];rfl)))
        have zN:=eq_of_beq zn;refine lB 75 zn (lL hs [.m 74 75] (lN (cIT (cQ ?_))));have hsr:=hs;refine cRz 5 [] [za,zb] mixed hs al_nil (eO 0 76 [(5,0,5)] (qv a) hs (eOz 4 80 [(0,0,5)] (qv 0) hsr hs ?_ (hM:=fun p hp=>by obtain rfl:=List.mem_singleton.1 hp;exact fun hm=>by rcases List.mem_cons.1 hm with e|hm;exact bx_ne hs.st (i:=0) (j:=3) kR kR kR e;rcases List.mem_cons.1 hm with e|hm;exact bx_ne hs.st (i:=0) (j:=2) kR kR kR e;cases hm)));refine eC 1 77 hs (fun _ _ hs=>fSign a (LQ.mono ha oM) _ _ hs.g) ?_;rintro _ _ _ _ _ hs rfl;refine eV 2 78 (iV (max (a.num.sign:Int) (0:Int))) ?_ (hv:=fun _=>rint (n:=(if (0:Int)>(a.num.sign:Int) then (0:Int) else (a.num.sign:Int))) kR (by simp only[imax2]));have hq94:LQ (1) (((max (a.num.sign:Int) (0:Int):Int):Rat)):=LQ.int oM oM;refine eC 3 79 hs (fun _ _ hs=>fOf (max (a.num.sign:Int) (0:Int)) oM oM _ _ hs.g) ?_;rintro _ _ _ _ _ hs rfl;refine eD0 hs (fun _ _ hs=>tP 5 3 0 (qc ((max (a.num.sign:Int) (0:Int):Int):Rat)) hs (fun _ hs=>?_) (hz:=tlz_mem (List.mem_cons_self)));refine tP 6 2 0 (qc 0) hs (fun _ hs=>?_) (hz:=tlz_mem (List.mem_cons_of_mem _<|List.mem_cons_self));exact tN (kX (hs.ret [(3,0,5),(2,0,5)] (.tuple #[qv ((max (a.num.sign:Int) (0:Int):Int):Rat),qv 0]) (by rw[show s.op=10 by omega];rfl)))
       have zM:=eq_of_beq zm;refine lB 69 zm (lL hs [.m 68 69] (lN (cIT (cQ ?_))));have hsr:=hs;refine cRz 4 [] [za,zb] mixed hs al_nil (eO 0 70 [(5,0,5)] (qv a) hs (eOz 3 73 [(0,0,5)] (qv 0) hsr hs ?_ (hM:=fun p hp=>by obtain rfl:=List.mem_singleton.1 hp;exact fun hm=>by rcases List.mem_cons.1 hm with e|hm;exact bx_ne hs.st (i:=0) (j:=3) kR kR kR e;rcases List.mem_cons.1 hm with e|hm;exact bx_ne hs.st (i:=0) (j:=2) kR kR kR e;cases hm)));refine eC 1 71 hs (fun _ _ hs=>fSign a (LQ.mono ha oM) _ _ hs.g) ?_;rintro _ _ _ _ _ hs rfl;have hq103:LQ (1) (((a.num.sign:Int):Rat)):=LQ.int oM oM;refine eC 2 72 hs (fun _ _ hs=>fOf a.num.sign oM oM _ _ hs.g) ?_;rintro _ _ _ _ _ hs rfl;refine eD0 hs (fun _ _ hs=>tP 4 3 0 (qc ((a.num.sign:Int):Rat)) hs (fun _ hs=>?_) (hz:=tlz_mem (List.mem_cons_self)));refine tP 5 2 0 (qc 0) hs (fun _ hs=>?_) (hz:=tlz_mem (List.mem_cons_of_mem _<|List.mem_cons_self));exact tN (kX (hs.ret [(3,0,5),(2,0,5)] (.tuple #[qv ((a.num.sign:Int):Rat),qv 0]) (by rw[show s.op=9 by omega];rfl)))
      have zL:=eq_of_beq zl;refine lB 48 zl (lL hs [.m 47 48] (lN (cIT (cQ (cSL (lL hs [.v 49 (qP b1 3),.o 50 (iV s.n) 6 3 1] ?_))))));cases zc:((s.n:Int) == (0:Int))
      ·
       have zF:=neOfBeq zc;refine lB 51 zc (lN (cIF (cK (cSL (lL hs [.o 55 (qv a) 5 0 5,.v 56 (qP b1 3),.o 57 (iV s.n) 6 3 1] (lI 58 (s.n-1) ?_))))));refine lC 59 hs (tPower a (s.n-1) K hK ha (by have:=hn oM;omega) (fun h0=>hok oM oM) _ _ hs.g hs.f.1) ?_;rintro _ _ _ hs rfl;have hpw:=lq_powq (n:=s.n-1) hK1 ha (by have:=hn oM;omega);refine lL hs [.m 54 59,.v 60 (qv (powq a (s.n-1))),.v 61 qT] (lP 3 0 (qc (powq a (s.n-1))) hs (fun _ hs=>lN (cQ ?_)));have hsr:=hs;refine cRz 6 [] [za,zb] mixed hs al_nil (eO 0 62 [(3,0,5)] (qv (powq a (s.n-1))) hs (eV 1 63 (qP b1 3) (eO 2 64 [(6,3,1)] (iV s.n) hs (eOz 5 67 [(0,0,5)] (qv 0) hsr hs ?_ (hM:=fun p hp=>by obtain rfl:=List.mem_singleton.1 hp;exact fun hm=>by rcases List.mem_cons.1 hm with e|hm;exact bx_ne hs.st (i:=0) (j:=3) kR kR kR e;rcases List.mem_cons.1 hm with e|hm;exact bx_ne hs.st (i:=0) (j:=2) kR kR kR e;cases hm)))));have zv:LQ (1) (((s.n:Int):Rat)):=LQ.int oM oM;refine eC 3 65 hs (fun _ _ hs=>fOf s.n oM oM _ _ hs.g) ?_;rintro _ _ _ _ _ hs rfl;have hq117:=LQ.mul hpw zv;refine eC 4 66 hs (fun _ _ hs=>fMul (powq a (s.n-1)) ((s.n:Int):Rat) (LQ.mono hpw oM) (LQ.mono zv oM) _ _ hs.g hs.f.1) ?_;rintro _ _ _ _ _ hs rfl;refine eD0 hs (fun _ _ hs=>tP 6 3 0 (qc ((powq a (s.n-1))*((s.n:Int):Rat))) hs (fun _ hs=>?_) (hz:=tlz_mem (List.mem_cons_self)));refine tP 7 2 0 (qc 0) hs (fun _ hs=>?_) (hz:=tlz_mem (List.mem_cons_of_mem _<|List.mem_cons_self));refine tN (cTo [(6,pB za),(7,pB zb),(9,pB ze)] ?_);exact kX (hs.ret [(3,0,5),(2,0,5)] (.tuple #[qv ((powq a (s.n-1))*((s.n:Int):Rat)),qv 0]) (by rw[show s.op=8 by omega];unfold sla slb;rw[if_neg kD,if_neg kD,if_neg kD,if_neg kD,if_neg kD,if_pos rfl,if_neg (show ¬s.n=0 by omega)];rfl))
      have zF:=eq_of_beq zc;refine lB 51 zc (lN (cIT (cQ ?_)));have hsr:=hs;refine cRz 2 [] [za,zb] mixed hs al_nil (eO 0 52 [(0,0,5)] (qv 0) hs (eOz 1 53 [(0,0,5)] (qv 0) hsr hs ?_ (hM:=fun p hp=>by obtain rfl:=List.mem_singleton.1 hp;exact fun hm=>by rcases List.mem_cons.1 hm with e|hm;exact bx_ne hs.st (i:=0) (j:=3) kR kR kR e;rcases List.mem_cons.1 hm with e|hm;exact bx_ne hs.st (i:=0) (j:=2) kR kR kR e;cases hm)));refine eD0 hs (fun _ _ hs=>tP 2 3 0 (qc 0) hs (fun _ hs=>?_) (hz:=tlz_mem (List.mem_cons_self)));refine tP 3 2 0 (qc 0) hs (fun _ hs=>?_) (hz:=tlz_mem (List.mem_cons_of_mem _<|List.mem_cons_self));exact tN (kX (hs.ret [(3,0,5),(2,0,5)] (.tuple #[qv 0,qv 0]) (by rw[show s.op=8 by omega,show s.n=0 by omega];rfl)))
     have zK:=eq_of_beq zk;refine lB 43 zk (lL hs [.m 42 43] (lN (cIT (cQ ?_))));have hsr:=hs;refine cRz 3 [] [za,zb] mixed hs al_nil (eO 0 44 [(1,0,5)] (qv ((1:Int):Rat)) hs (eOz 2 46 [(0,0,5)] (qv 0) hsr hs ?_ (hM:=fun p hp=>by obtain rfl:=List.mem_singleton.1 hp;exact fun hm=>by rcases List.mem_cons.1 hm with e|hm;exact bx_ne hs.st (i:=0) (j:=3) kR kR kR e;rcases List.mem_cons.1 hm with e|hm;exact bx_ne hs.st (i:=0) (j:=2) kR kR kR e;cases hm)));have hq128:LQ (1) (-((1:Int):Rat)):=LQ.neg (LQ.lit (z:=1) kD);refine eC 1 45 hs (fun _ _ hs=>fNeg ((1:Int):Rat) (LQ.mono (LQ.lit (z:=1) kD) oM) _ _ hs.g) ?_;rintro _ _ _ _ _ hs rfl;refine eD0 hs (fun _ _ hs=>tP 3 3 0 (qc (-((1:Int):Rat))) hs (fun _ hs=>?_) (hz:=tlz_mem (List.mem_cons_self)));refine tP 4 2 0 (qc 0) hs (fun _ hs=>?_) (hz:=tlz_mem (List.mem_cons_of_mem _<|List.mem_cons_self));exact tN (kX (hs.ret [(3,0,5),(2,0,5)] (.tuple #[qv (-((1:Int):Rat)),qv 0]) (by rw[show s.op=7 by omega];rfl)))
    have zJ:=eq_of_beq zj;refine lB 28 zj (lL hs [.m 27 28] (lN (cIT (cSL (lL hs [.o 30 (qv ((1:Int):Rat)) 1 0 5,.o 31 (qv b) 4 0 5] ?_)))));have zd:=LQ.div (LQ.lit (z:=1) kD) hb;refine lC 32 hs (fDivN ((1:Int):Rat) b (LQ.mono (LQ.lit (z:=1) kD) oM) (LQ.mono hb oM) (num_nz (hok6 oM)) _ _ hs.g hs.f.1) ?_;rintro _ _ _ hs rfl;refine lL hs [.m 29 32,.v 33 (qv (((1:Int):Rat)/b)),.v 34 qT] (lP 3 0 (qc (((1:Int):Rat)/b)) hs (fun _ hs=>lN (cQ ?_)));have hsr:=hs;refine cRz 7 [] [za,zb] mixed hs al_nil (eO 0 35 [(3,0,5)] (qv (((1:Int):Rat)/b)) hs (eOz 1 36 [(5,0,5)] (qv a) hsr hs ?_ (hM:=fun p hp=>by obtain rfl:=List.mem_singleton.1 hp;exact fun hm=>by rcases List.mem_cons.1 hm with e|hm;exact bx_ne hs.st (i:=5) (j:=3) kR kR kR e;rcases List.mem_cons.1 hm with e|hm;exact bx_ne hs.st (i:=5) (j:=2) kR kR kR e;cases hm)));refine eO 2 37 [(3,0,5)] (qv (((1:Int):Rat)/b)) hs (eO 4 39 [(3,0,5)] (qv (((1:Int):Rat)/b)) hs ?_);have zw:=LQ.mul ha zd;refine eC 3 38 hs (fun _ _ hs=>fMul a (((1:Int):Rat)/b) (LQ.mono ha oM) (LQ.mono zd oM) _ _ hs.g hs.f.1) ?_;rintro _ _ _ _ _ hs rfl;have zx:=LQ.mul zw zd;refine eC 5 40 hs (fun _ _ hs=>fMul (a*(((1:Int):Rat)/b)) (((1:Int):Rat)/b) (LQ.mono zw oM) (LQ.mono zd oM) _ _ hs.g hs.f.1) ?_;rintro _ _ _ _ _ hs rfl;have hq145:LQ ((K+(1+K))+(1+K)) (-((a*(((1:Int):Rat)/b))*(((1:Int):Rat)/b))):=LQ.neg zx;refine eC 6 41 hs (fun _ _ hs=>fNeg ((a*(((1:Int):Rat)/b))*(((1:Int):Rat)/b)) (LQ.mono zx oM) _ _ hs.g) ?_;rintro _ _ _ _ _ hs rfl;refine eD0 hs (fun _ _ hs=>tP 7 3 0 (qc (((1:Int):Rat)/b)) hs (fun _ hs=>?_) (hz:=tlz_mem (List.mem_cons_self)));refine tP 8 2 0 (qc (-((a*(((1:Int):Rat)/b))*(((1:Int):Rat)/b)))) hs (fun _ hs=>?_) (hz:=tlz_mem (List.mem_cons_of_mem _<|List.mem_cons_self));exact tN (kX (hs.ret [(3,0,5),(2,0,5)] (.tuple #[qv (((1:Int):Rat)/b),qv (-((a*(((1:Int):Rat)/b))*(((1:Int):Rat)/b)))]) (by rw[show s.op=6 by omega];rfl)))
   have zI:=eq_of_beq zi;refine lB 24 zi (lL hs [.m 23 24] (lN (cIT (cQ ?_))));have hsr:=hs;refine cRz 2 [] [za,zb] mixed hs al_nil (eO 0 25 [(4,0,5)] (qv b) hs (eOz 1 26 [(5,0,5)] (qv a) hsr hs ?_ (hM:=fun p hp=>by obtain rfl:=List.mem_singleton.1 hp;exact fun hm=>by rcases List.mem_cons.1 hm with e|hm;exact bx_ne hs.st (i:=5) (j:=3) kR kR kR e;rcases List.mem_cons.1 hm with e|hm;exact bx_ne hs.st (i:=5) (j:=2) kR kR kR e;cases hm)));refine eD0 hs (fun _ _ hs=>tP 2 3 0 (qc b) hs (fun _ hs=>?_) (hz:=tlz_mem (List.mem_cons_self)));refine tP 3 2 0 (qc a) hs (fun _ hs=>?_) (hz:=tlz_mem (List.mem_cons_of_mem _<|List.mem_cons_self));exact tN (kX (hs.ret [(3,0,5),(2,0,5)] (.tuple #[qv b,qv a]) (by rw[show s.op=5 by omega];rfl)))
  have zH:=eq_of_beq zg;refine lB 19 zg (lL hs [.m 18 19] (lN (cIT (cQ ?_))));have hsr:=hs;refine cRz 3 [] [za,zb] mixed hs al_nil (eO 0 20 [(1,0,5)] (qv ((1:Int):Rat)) hs (eOz 1 21 [(1,0,5)] (qv ((1:Int):Rat)) hsr hs ?_ (hM:=fun p hp=>by obtain rfl:=List.mem_singleton.1 hp;exact fun hm=>by rcases List.mem_cons.1 hm with e|hm;exact bx_ne hs.st (i:=1) (j:=3) kR kR kR e;rcases List.mem_cons.1 hm with e|hm;exact bx_ne hs.st (i:=1) (j:=2) kR kR kR e;cases hm)));have hq156:LQ (1) (-((1:Int):Rat)):=LQ.neg (LQ.lit (z:=1) kD);refine eC 2 22 hs (fun _ _ hs=>fNeg ((1:Int):Rat) (LQ.mono (LQ.lit (z:=1) kD) oM) _ _ hs.g) ?_;rintro _ _ _ _ _ hs rfl;refine eD0 hs (fun _ _ hs=>tP 3 3 0 (qc ((1:Int):Rat)) hs (fun _ hs=>?_) (hz:=tlz_mem (List.mem_cons_self)));refine tP 4 2 0 (qc (-((1:Int):Rat))) hs (fun _ hs=>?_) (hz:=tlz_mem (List.mem_cons_of_mem _<|List.mem_cons_self));exact tN (kX (hs.ret [(3,0,5),(2,0,5)] (.tuple #[qv ((1:Int):Rat),qv (-((1:Int):Rat))]) (by rw[show s.op=4 by omega];rfl)))
 have zG:=eq_of_beq zf;refine lB 15 zf (lL hs [.m 14 15] (lN (cIT (cQ ?_))));have hsr:=hs;refine cRz 2 [] [za,zb] mixed hs al_nil (eO 0 16 [(1,0,5)] (qv ((1:Int):Rat)) hs (eOz 1 17 [(1,0,5)] (qv ((1:Int):Rat)) hsr hs ?_ (hM:=fun p hp=>by obtain rfl:=List.mem_singleton.1 hp;exact fun hm=>by rcases List.mem_cons.1 hm with e|hm;exact bx_ne hs.st (i:=1) (j:=3) kR kR kR e;rcases List.mem_cons.1 hm with e|hm;exact bx_ne hs.st (i:=1) (j:=2) kR kR kR e;cases hm)));refine eD0 hs (fun _ _ hs=>tP 2 3 0 (qc ((1:Int):Rat)) hs (fun _ hs=>?_) (hz:=tlz_mem (List.mem_cons_self)));refine tP 3 2 0 (qc ((1:Int):Rat)) hs (fun _ hs=>?_) (hz:=tlz_mem (List.mem_cons_of_mem _<|List.mem_cons_self));exact tN (kX (hs.ret [(3,0,5),(2,0,5)] (.tuple #[qv ((1:Int):Rat),qv ((1:Int):Rat)]) (by rw[show s.op=3 by omega];rfl)))
theorem tSlopesX (s:Stp)(a b:Rat)(K:Nat)(hK:14*K+20≤100000000)(ha:LQ K a)(hb:LQ K b)(hq:LQ 1 s.q)(hK1:1≤K)(hop:1≤s.op∧s.op≤13∧s.op≠2)(hn:s.op=8 → -12≤s.n∧s.n≤12)(hok6:s.op=6→b≠0)(hok:s.op=8→s.n<0→a≠0)(w:World)(h:Hp)(g:G w h)(tb:Tab h):CR 53 #[stv s,qv a,qv b] w h (fun v _=>∃ da db,v=.tuple #[qv da,qv db]∧da=sla s.op s.n a b∧db=slb s.op a b):=by
  refine (tSlopes s a b K hK ha hb hq hK1 hop hn hok6 hok w h g tb).mono ?_;rintro _ w' ⟨_,h',rfl,u,rfl⟩;exact ⟨_,h',rfl,u,_,_,rfl,rfl,rfl⟩
theorem tArity (op:Int)(w:World)(h:Hp)(g:G w h):CV 54 #[iV op] w h (iV (ari op)):=by
 have hs:=sS g;refine go Tryz.func54 [(0,iV op)] rfl (cSL (lL hs [.v 2 (iV 0)] (lN (cQ (cSL (lL hs [.m 3 0] (lN (kZ (cQ (cSL ?_))))))))));cases hb1:((op:Int) == (1:Int))
 ·
  have phb1:=neOfBeq hb1;refine lB 5 hb1 (lL hs [.m 4 5] (lN (cIF (kQ ?_))));cases hb2:((op:Int) == (2:Int))
  ·
   have phb2:=neOfBeq hb2;refine lB 6 hb2 (lL hs [.m 4 6] (lN (cIF (cQ (cSL ?_)))));cases hb3:((op:Int) == (7:Int))
   ·
    have phb3:=neOfBeq hb3;refine lB 8 hb3 (lL hs [.m 7 8] (lN (cIF (cSL ?_))));cases hb4:((op:Int) == (8:Int))
    ·
     have phb4:=neOfBeq hb4;refine lB 9 hb4 (lL hs [.m 7 9] (lN (cIF (cSL ?_))));cases hb5:((op:Int) == (9:Int))
     ·
      have phb5:=neOfBeq hb5;refine lB 10 hb5 (lL hs [.m 7 10] (lN (cIF (cSL ?_))));cases hb6:((op:Int) == (10:Int))
      ·
       have phb6:=neOfBeq hb6;refine lB 11 hb6 (lL hs [.m 7 11] (lN (cIF (kQ ?_))));cases hb7:((op:Int) == (11:Int))
       ·
        have phb7:=neOfBeq hb7;refine lB 12 hb7 (lL hs [.m 7 12] (lN (cIF (cQ (cSL ?_)))));cases hb8:((op:Int) == (3:Int))
        ·
         have phb8:=neOfBeq hb8;refine lB 14 hb8 (lL hs [.m 13 14] (lN (cIF (cSL ?_))));cases hb9:((op:Int) == (4:Int))
         ·
          have phb9:=neOfBeq hb9;refine lB 15 hb9 (lL hs [.m 13 15] (lN (cIF (cSL ?_))));cases za:((op:Int) == (5:Int))
          ·
           have ze:=neOfBeq za;refine lB 16 za (lL hs [.m 13 16] (lN (cIF (cSL ?_))));cases zb:((op:Int) == (6:Int))
           ·
            have zf:=neOfBeq zb;refine lB 17 zb (lL hs [.m 13 17] (lN (cIF (cSL ?_))));cases zc:((op:Int) == (12:Int))
            ·
             have zg:=neOfBeq zc;refine lB 18 zc (lL hs [.m 13 18] (lN (cIF (kQ ?_))));cases zd:((op:Int) == (13:Int))
             ·
              have zi:=neOfBeq zd;exact lB 19 zd (lL hs [.m 13 19] (lN (cIF (cK (cSL (lL hs [.v 2 (iV (-1))] (lN (kX (hs.ret [] (iV (-1)) (congrArg (Value.int .i64) (by have:=ari_cases op;omega)))))))))))
             have zi:=eq_of_beq zd;exact lB 19 zd (lL hs [.m 13 19] (lN (cIT (cSL (lL hs [.v 2 (iV 2)] (lN (kX (hs.ret [] (iV 2) (congrArg (Value.int .i64) (by have:=ari_cases op;omega))))))))))
            have zg:=eq_of_beq zc;exact lB 18 zc (lL hs [.m 13 18] (lN (cIT (cK (cIT (cSL (lL hs [.v 2 (iV 2)] (lN (kX (hs.ret [] (iV 2) (congrArg (Value.int .i64) (by have:=ari_cases op;omega))))))))))))
           have zf:=eq_of_beq zb;exact lB 17 zb (lL hs [.m 13 17] (lN (cIT (cK (cIT (cSL (lL hs [.v 2 (iV 2)] (lN (kX (hs.ret [] (iV 2) (congrArg (Value.int .i64) (by have:=ari_cases op;omega))))))))))))
          have ze:=eq_of_beq za;exact lB 16 za (lL hs [.m 13 16] (lN (cIT (cK (cIT (cSL (lL hs [.v 2 (iV 2)] (lN (kX (hs.ret [] (iV 2) (congrArg (Value.int .i64) (by have:=ari_cases op;omega))))))))))))
         have phb9:=eq_of_beq hb9;exact lB 15 hb9 (lL hs [.m 13 15] (lN (cIT (cK (cIT (cSL (lL hs [.v 2 (iV 2)] (lN (kX (hs.ret [] (iV 2) (congrArg (Value.int .i64) (by have:=ari_cases op;omega))))))))))))
        have phb8:=eq_of_beq hb8;exact lB 14 hb8 (lL hs [.m 13 14] (lN (cIT (cK (cIT (cSL (lL hs [.v 2 (iV 2)] (lN (kX (hs.ret [] (iV 2) (congrArg (Value.int .i64) (by have:=ari_cases op;omega))))))))))))
       have phb7:=eq_of_beq hb7;exact lB 12 hb7 (lL hs [.m 7 12] (lN (cIT (cSL (lL hs [.v 2 (iV 1)] (lN (kX (hs.ret [] (iV 1) (congrArg (Value.int .i64) (by have:=ari_cases op;omega))))))))))
      have phb6:=eq_of_beq hb6;exact lB 11 hb6 (lL hs [.m 7 11] (lN (cIT (cK (cIT (cSL (lL hs [.v 2 (iV 1)] (lN (kX (hs.ret [] (iV 1) (congrArg (Value.int .i64) (by have:=ari_cases op;omega))))))))))))
     have phb5:=eq_of_beq hb5;exact lB 10 hb5 (lL hs [.m 7 10] (lN (cIT (cK (cIT (cSL (lL hs [.v 2 (iV 1)] (lN (kX (hs.ret [] (iV 1) (congrArg (Value.int .i64) (by have:=ari_cases op;omega))))))))))))
    have phb4:=eq_of_beq hb4;exact lB 9 hb4 (lL hs [.m 7 9] (lN (cIT (cK (cIT (cSL (lL hs [.v 2 (iV 1)] (lN (kX (hs.ret [] (iV 1) (congrArg (Value.int .i64) (by have:=ari_cases op;omega))))))))))))
   have phb3:=eq_of_beq hb3;exact lB 8 hb3 (lL hs [.m 7 8] (lN (cIT (cK (cIT (cSL (lL hs [.v 2 (iV 1)] (lN (kX (hs.ret [] (iV 1) (congrArg (Value.int .i64) (by have:=ari_cases op;omega))))))))))))
  have phb2:=eq_of_beq hb2;exact lB 6 hb2 (lL hs [.m 4 6] (lN (cIT (cSL (lL hs [.v 2 (iV 0)] (lN (kX (hs.ret [] (iV 0) (congrArg (Value.int .i64) (by have:=ari_cases op;omega))))))))))
 have phb1:=eq_of_beq hb1;exact lB 5 hb1 (lL hs [.m 4 5] (lN (cIT (cK (cIT (cSL (lL hs [.v 2 (iV 0)] (lN (kX (hs.ret [] (iV 0) (congrArg (Value.int .i64) (by have:=ari_cases op;omega))))))))))))
theorem tRefers_true (tt:Int)(i rb:Nat)(w:World)(h:Hp)(g:G w h)(ho:Own w rb 3 [nV i])(hj:h[rb]?=some junk):Calls Tryz.prog 150 #[iV tt,.bool true,pB rb] w (RetM rb w h fun v w' _=>v=.bool (decide (0≤(tt:Int)∧(tt:Int)<(i:Nat)))∧Own w' rb 3 [nV i]):=by
 have hmo:UpM [rb] w h w h:=UpM.refl g;obtain ⟨wz,hz,hs⟩:=SS.at_ g ho hj;refine go Tryz.func150 [(0,iV tt),(1,qT),(2,pB rb)] rfl (cSL (lL hs [.v 5 qF] (lN (cQ (cSL (lL hs [.m 6 1] (lN (cIT (cSL (lL hs [.m 7 0] ?_))))))))));cases hb1:(decide ((0:Int)≤(tt:Int)))
 ·
  have phb1:=oF hb1;refine lB 8 hb1 (lL hs [.m 9 8] (lG 10 ?_));exact lG 11 (lG 12 (lL hs [.v 13 qF,.m 5 13] (lN (kX (hs.retM hmo [] qF ⟨congrArg Value.bool (decide_eq_false oM).symm,hs.own 0⟩)))))
 have phb1:=oT hb1;refine lB 8 hb1 (lL hs [.m 9 8,.m 10 0,.o 11 (nV i) 0 0 1] ?_);cases hb2:(decide ((tt:Int)<(i:Int)))
 ·
  have phb2:=oF hb2;exact lB 12 hb2 (lL hs [.v 13 qF,.m 5 13] (lN (kX (hs.retM hmo [] qF ⟨congrArg Value.bool (decide_eq_false oM).symm,hs.own 0⟩))))
 have phb2:=oT hb2;exact lB 12 hb2 (lL hs [.v 13 qT,.m 5 13] (lN (kX (hs.retM hmo [] qT ⟨congrArg Value.bool (decide_eq_true oM).symm,hs.own 0⟩))))
theorem tRefers_false (tt:Int)(i rb:Nat)(w:World)(h:Hp)(g:G w h)(ho:Own w rb 3 [nV i])(hj:h[rb]?=some junk):Calls Tryz.prog 150 #[iV tt,.bool false,pB rb] w (RetM rb w h fun v w' _=>v=.bool (decide ((tt:Int)=0))∧Own w' rb 3 [nV i]):=by
 have hmo:UpM [rb] w h w h:=UpM.refl g;obtain ⟨wz,hz,hs⟩:=SS.at_ g ho hj;refine go Tryz.func150 [(0,iV tt),(1,qF),(2,pB rb)] rfl (cSL (lL hs [.v 5 qF] (lN (cQ (cSL (lL hs [.m 6 1] (lN (cIF (cK (cSL (lL hs [.m 14 0] ?_)))))))))));cases hb1:((tt:Int) == (0:Int))
 ·
  have phb1:=neOfBeq hb1;exact lB 15 hb1 (lL hs [.m 5 15] (lN (kX (hs.retM hmo [] qF ⟨congrArg Value.bool (decide_eq_false oM).symm,hs.own 0⟩))))
 have phb1:=eq_of_beq hb1;exact lB 15 hb1 (lL hs [.m 5 15] (lN (kX (hs.retM hmo [] qT ⟨congrArg Value.bool (decide_eq_true oM).symm,hs.own 0⟩))))
theorem tFormed (inp:Int)(A:Option Addr)(c:Nat)(l:List Stp)(O:Option Addr)(d:Nat)(os:List Int)(i:Nat)(hik:i<l.length)(hl:l.length≤65536)(hq:LQ 1 (l.getD i stp0).q)(w:World)(h:Hp)(g:G w h)(hA:SlO 9 stc stp0 h A l)(hO:Si O os h):CV 93 #[.agg #[iV inp,.slice A ((l).length) c,.slice O ((os).length) d],nV i] w h (.bool (decide (Formed inp i (l.getD i stp0)))):=by
 have hs:=(((sS g).aS hA).aS hO);have hsg:(l.getD i stp0).q.num.sign=0↔(l.getD i stp0).q.num=0:=Int.sign_eq_zero_iff_zero;refine go Tryz.func93 [(0,.agg #[iV inp,qS A ((l).length) c,qS O ((os).length) d]),(1,nV i)] rfl (cSL (lA 2 36 ([iV inp,qS A ((l).length) c,qS O ((os).length) d]) hs (fun b1 w2 h3 hs=>lA 3 3 ([nV i]) hs (fun b4 w5 h6 hs=>lL hs [.v 4 qF] (lNS (lL hs [.v 8 (qP b1 1),.o 9 (qS A ((l).length) c) 1 1 1,.o 10 (nV i) 0 0 1] (lX 11 A ((l).length) c 9 (i:Nat) i ((hs.f.2.1).ok oM) ?_)))))));refine lH 12 (.agg #[iV ((l.getD i stp0).op),iV ((l.getD i stp0).a),iV ((l.getD i stp0).b),iV ((l.getD i stp0).n),.bool (ineg ((l.getD i stp0).q).num),uV (lo (iabs ((l.getD i stp0).q).num)),.string (hi (iabs ((l.getD i stp0).q).num)),uV (lo (qd ((l.getD i stp0).q))),.string (hi (qd ((l.getD i stp0).q)))]) hs ((hs.f.2.1).el i oM) (lA 5 110 ([iV 0,iV 0,iV 0,iV 0,qF,uV 0,eS,uV 0,eS]) hs (fun b7 w8 h9 hs=>lP 0 0 ([iV ((l.getD i stp0).op),iV ((l.getD i stp0).a),iV ((l.getD i stp0).b),iV ((l.getD i stp0).n),.bool (ineg ((l.getD i stp0).q).num),uV (lo (iabs ((l.getD i stp0).q).num)),.string (hi (iabs ((l.getD i stp0).q).num)),uV (lo (qd ((l.getD i stp0).q))),.string (hi (qd ((l.getD i stp0).q)))]) hs (fun _ hs=>lNS (lL hs [.v 13 (pB b7),.o 14 (iV ((l.getD i stp0).op)) 0 0 1] (lC 15 hs (tArity (l.getD i stp0).op _ _ hs.g) ?_)))));rintro _ _ _ hs rfl;have hac:=ari_cases (l.getD i stp0).op;refine lL hs [.m 6 15] (lN (cQ (cSL (lL hs [.m 16 6] ?_))));cases za:(decide ((ari (l.getD i stp0).op:Int)<(0:Int)))
 ·
  have zA:=oF za;refine lB 17 za ?_;refine lN (cIF (cK (cSL (lL hs [.v 18 (.func (.func 150) #[] #[pB b4]),.m 7 18] (lN (cQ (CG.join (fun Γ w_=>∃ (zs:Bool) (h_:Hp),Γ=[(2,pB b1),(4,qF),(5,pB b7),(45,.bool zs)]∧SS w h w_ h_ [⟨b7,110,[iV ((l.getD i stp0).op),iV ((l.getD i stp0).a),iV ((l.getD i stp0).b),iV ((l.getD i stp0).n),.bool (ineg ((l.getD i stp0).q).num),uV (lo (iabs ((l.getD i stp0).q).num)),.string (hi (iabs ((l.getD i stp0).q).num)),uV (lo (qd ((l.getD i stp0).q))),.string (hi (qd ((l.getD i stp0).q)))]⟩,⟨b4,3,[nV i]⟩,⟨b1,36,[iV inp,qS A ((l).length) c,qS O ((os).length) d]⟩] [] [Si O os,fun h_=>SlO 9 stc stp0 h_ A l]∧(zs=true→¬(((0<ari (l.getD i stp0).op→0≤(l.getD i stp0).a∧(l.getD i stp0).a<i)∧(¬0<ari (l.getD i stp0).op→(l.getD i stp0).a=0))∧((1<ari (l.getD i stp0).op→0≤(l.getD i stp0).b∧(l.getD i stp0).b<i)∧(¬1<ari (l.getD i stp0).op→(l.getD i stp0).b=0))∧((l.getD i stp0).op≠1→(l.getD i stp0).q.num=0)))∧(zs=false→(((0<ari (l.getD i stp0).op→0≤(l.getD i stp0).a∧(l.getD i stp0).a<i)∧(¬0<ari (l.getD i stp0).op→(l.getD i stp0).a=0))∧((1<ari (l.getD i stp0).op→0≤(l.getD i stp0).b∧(l.getD i stp0).b<i)∧(¬1<ari (l.getD i stp0).op→(l.getD i stp0).b=0))∧((l.getD i stp0).op≠1→(l.getD i stp0).q.num=0)))) ?_ ?_)))))))
  ·
   refine kQ (lL hs [.m 19 7,.v 20 (qP b7 1),.o 21 (iV ((l.getD i stp0).a)) 0 1 1,.m 22 6] ?_);cases zb:(decide ((0:Int)<(ari (l.getD i stp0).op:Int)))
   ·
    have zB:=oF zb;refine lB 23 zb (lCm 24 (tRefers_false ((l.getD i stp0).a) i b4 _ _ hs.g (hs.own 1) (hs.jk 1)) ?_);rintro _ _ yj u18 ⟨rfl,hO15⟩;replace hs:=(hs.stepM 1 u18 hO15).to [⟨b7,110,[iV ((l.getD i stp0).op),iV ((l.getD i stp0).a),iV ((l.getD i stp0).b),iV ((l.getD i stp0).n),.bool (ineg ((l.getD i stp0).q).num),uV (lo (iabs ((l.getD i stp0).q).num)),.string (hi (iabs ((l.getD i stp0).q).num)),uV (lo (qd ((l.getD i stp0).q))),.string (hi (qd ((l.getD i stp0).q)))]⟩,⟨b4,3,[nV i]⟩,⟨b1,36,[iV inp,qS A ((l).length) c,qS O ((os).length) d]⟩] [];cases zt:(decide (((l.getD i stp0).a:Int)=0))
    ·
     have zD:=oF zt;refine lL hs [.v 25 qT,.m 26 25] (lG 27 ?_);refine lG 28 (lG 29 (lG 30 (lG 31 (lG 32 (lG 33 (lL hs [.v 34 qT,.m 35 34] (lG 36 ?_)))))));refine lG 37 (lG 38 (lG 39 (lG 40 (lG 41 (lG 42 (lG 43 (lG 44 (lL hs [.v 45 qT] (lD ?_)))))))));intro a_ ka;exact ⟨_,⟨true,yj,rfl,hs.to _ _,(fun _=>by omega),(fun h_=>absurd h_ kD)⟩,ka.to _ kR⟩
    have zD:=oT zt;refine lL hs [.v 25 qF,.m 26 25,.m 27 7,.v 28 (qP b7 2),.o 29 (iV ((l.getD i stp0).b)) 0 2 1,.m 30 6] ?_;have ⟨yg,phb22⟩:=dF (p:=(1:Int)<(ari (l.getD i stp0).op:Int)) oM;refine lB 31 yg (lCm 32 (tRefers_false ((l.getD i stp0).b) i b4 _ _ hs.g (hs.own 1) (hs.jk 1)) ?_);rintro _ _ ya u26 ⟨rfl,hO23⟩;replace hs:=(hs.stepM 1 u26 hO23).to [⟨b7,110,[iV ((l.getD i stp0).op),iV ((l.getD i stp0).a),iV ((l.getD i stp0).b),iV ((l.getD i stp0).n),.bool (ineg ((l.getD i stp0).q).num),uV (lo (iabs ((l.getD i stp0).q).num)),.string (hi (iabs ((l.getD i stp0).q).num)),uV (lo (qd ((l.getD i stp0).q))),.string (hi (qd ((l.getD i stp0).q)))]⟩,⟨b4,3,[nV i]⟩,⟨b1,36,[iV inp,qS A ((l).length) c,qS O ((os).length) d]⟩] [];cases zu:(decide (((l.getD i stp0).b:Int)=0))
    ·
     have zE:=oF zu;refine lL hs [.v 33 qT,.v 34 qT,.m 35 34] (lG 36 ?_);refine lG 37 (lG 38 (lG 39 (lG 40 (lG 41 (lG 42 (lG 43 (lG 44 (lL hs [.v 45 qT] (lD ?_)))))))));intro a_ ka;exact ⟨_,⟨true,ya,rfl,hs.to _ _,(fun _=>by omega),(fun h_=>absurd h_ kD)⟩,ka.to _ kR⟩
    have zE:=oT zu;refine lL hs [.v 33 qF,.v 34 qF,.m 35 34,.v 36 (pB b7),.o 37 (iV ((l.getD i stp0).op)) 0 0 1] ?_;cases zc:(((l.getD i stp0).op:Int) != (1:Int))
    ·
     have zF:=eqOfBne zc;refine lB 38 zc (lL hs [.m 39 38] (lG 40 ?_));refine lG 41 (lG 42 (lG 43 (lL hs [.v 44 qF,.v 45 qF] (lD ?_))));intro a_ ka;exact ⟨_,⟨false,ya,rfl,hs.to _ _,(fun h_=>absurd h_ kD),(fun _=>by omega)⟩,ka.to _ kR⟩
    have zF:=neOfBne zc;refine lB 38 zc (lL hs [.m 39 38,.v 40 (qP b7 4),.o 41 (qv ((l.getD i stp0).q)) 0 4 5] (lC 42 hs (fSign (l.getD i stp0).q (hq.mono oM) _ _ hs.g) ?_));rintro _ _ yb hs rfl;cases zd:(((l.getD i stp0).q.num.sign:Int) != (0:Int))
    ·
     have zG:=eqOfBne zd;refine lB 43 zd (lL hs [.v 44 qF,.v 45 qF] (lD ?_));intro a_ ka;exact ⟨_,⟨false,yb,rfl,hs.to _ _,(fun h_=>absurd h_ kD),(fun _=>by omega)⟩,ka.to _ kR⟩
    have zG:=neOfBne zd;refine lB 43 zd (lL hs [.v 44 qT,.v 45 qT] (lD ?_));intro a_ ka;exact ⟨_,⟨true,yb,rfl,hs.to _ _,(fun _=>by omega),(fun h_=>absurd h_ kD)⟩,ka.to _ kR⟩
   have zB:=oT zb;refine lB 23 zb (lCm 24 (tRefers_true ((l.getD i stp0).a) i b4 _ _ hs.g (hs.own 1) (hs.jk 1)) ?_);rintro _ _ yk u43 ⟨rfl,hO40⟩;replace hs:=(hs.stepM 1 u43 hO40).to [⟨b7,110,[iV ((l.getD i stp0).op),iV ((l.getD i stp0).a),iV ((l.getD i stp0).b),iV ((l.getD i stp0).n),.bool (ineg ((l.getD i stp0).q).num),uV (lo (iabs ((l.getD i stp0).q).num)),.string (hi (iabs ((l.getD i stp0).q).num)),uV (lo (qd ((l.getD i stp0).q))),.string (hi (qd ((l.getD i stp0).q)))]⟩,⟨b4,3,[nV i]⟩,⟨b1,36,[iV inp,qS A ((l).length) c,qS O ((os).length) d]⟩] [];cases zv:(decide (0≤((l.getD i stp0).a:Int)∧((l.getD i stp0).a:Int)<(i:Nat)))
   ·
    have zH:=oF zv;refine lL hs [.v 25 qT,.m 26 25] (lG 27 ?_);refine lG 28 (lG 29 (lG 30 (lG 31 (lG 32 (lG 33 (lL hs [.v 34 qT,.m 35 34] (lG 36 ?_)))))));refine lG 37 (lG 38 (lG 39 (lG 40 (lG 41 (lG 42 (lG 43 (lG 44 (lL hs [.v 45 qT] (lD ?_)))))))));intro a_ ka;exact ⟨_,⟨true,yk,rfl,hs.to _ _,(fun _=>by omega),(fun h_=>absurd h_ kD)⟩,ka.to _ kR⟩
   have zH:=oT zv;refine lL hs [.v 25 qF,.m 26 25,.m 27 7,.v 28 (qP b7 2),.o 29 (iV ((l.getD i stp0).b)) 0 2 1,.m 30 6] ?_;cases ze:(decide ((1:Int)<(ari (l.getD i stp0).op:Int)))
   ·
    have zI:=oF ze;refine lB 31 ze (lCm 32 (tRefers_false ((l.getD i stp0).b) i b4 _ _ hs.g (hs.own 1) (hs.jk 1)) ?_);rintro _ _ yc u51 ⟨rfl,hO48⟩;replace hs:=(hs.stepM 1 u51 hO48).to [⟨b7,110,[iV ((l.getD i stp0).op),iV ((l.getD i stp0).a),iV ((l.getD i stp0).b),iV ((l.getD i stp0).n),.bool (ineg ((l.getD i stp0).q).num),uV (lo (iabs ((l.getD i stp0).q).num)),.string (hi (iabs ((l.getD i stp0).q).num)),uV (lo (qd ((l.getD i stp0).q))),.string (hi (qd ((l.getD i stp0).q)))]⟩,⟨b4,3,[nV i]⟩,⟨b1,36,[iV inp,qS A ((l).length) c,qS O ((os).length) d]⟩] [];cases zw:(decide (((l.getD i stp0).b:Int)=0))
    ·
     have zJ:=oF zw;refine lL hs [.v 33 qT,.v 34 qT,.m 35 34] (lG 36 ?_);refine lG 37 (lG 38 (lG 39 (lG 40 (lG 41 (lG 42 (lG 43 (lG 44 (lL hs [.v 45 qT] (lD ?_)))))))));intro a_ ka;exact ⟨_,⟨true,yc,rfl,hs.to _ _,(fun _=>by omega),(fun h_=>absurd h_ kD)⟩,ka.to _ kR⟩
    have zJ:=oT zw;refine lL hs [.v 33 qF,.v 34 qF,.m 35 34,.v 36 (pB b7),.o 37 (iV ((l.getD i stp0).op)) 0 0 1] ?_;cases zf:(((l.getD i stp0).op:Int) != (1:Int))
    ·
     have zK:=eqOfBne zf;refine lB 38 zf (lL hs [.m 39 38] (lG 40 ?_));refine lG 41 (lG 42 (lG 43 (lL hs [.v 44 qF,.v 45 qF] (lD ?_))));intro a_ ka;exact ⟨_,⟨false,yc,rfl,hs.to _ _,(fun h_=>absurd h_ kD),(fun _=>by omega)⟩,ka.to _ kR⟩
    have zK:=neOfBne zf;refine lB 38 zf (lL hs [.m 39 38,.v 40 (qP b7 4),.o 41 (qv ((l.getD i stp0).q)) 0 4 5] (lC 42 hs (fSign (l.getD i stp0).q (hq.mono oM) _ _ hs.g) ?_));rintro _ _ yd hs rfl;cases zg:(((l.getD i stp0).q.num.sign:Int) != (0:Int))
    ·
     have zL:=eqOfBne zg;refine lB 43 zg (lL hs [.v 44 qF,.v 45 qF] (lD ?_));intro a_ ka;exact ⟨_,⟨false,yd,rfl,hs.to _ _,(fun h_=>absurd h_ kD),(fun _=>by omega)⟩,ka.to _ kR⟩
    have zL:=neOfBne zg;refine lB 43 zg (lL hs [.v 44 qT,.v 45 qT] (lD ?_));intro a_ ka;exact ⟨_,⟨true,yd,rfl,hs.to _ _,(fun _=>by omega),(fun h_=>absurd h_ kD)⟩,ka.to _ kR⟩
   have zI:=oT ze;refine lB 31 ze (lCm 32 (tRefers_true ((l.getD i stp0).b) i b4 _ _ hs.g (hs.own 1) (hs.jk 1)) ?_);rintro _ _ ye u68 ⟨rfl,hO65⟩;replace hs:=(hs.stepM 1 u68 hO65).to [⟨b7,110,[iV ((l.getD i stp0).op),iV ((l.getD i stp0).a),iV ((l.getD i stp0).b),iV ((l.getD i stp0).n),.bool (ineg ((l.getD i stp0).q).num),uV (lo (iabs ((l.getD i stp0).q).num)),.string (hi (iabs ((l.getD i stp0).q).num)),uV (lo (qd ((l.getD i stp0).q))),.string (hi (qd ((l.getD i stp0).q)))]⟩,⟨b4,3,[nV i]⟩,⟨b1,36,[iV inp,qS A ((l).length) c,qS O ((os).length) d]⟩] [];cases zx:(decide (0≤((l.getD i stp0).b:Int)∧((l.getD i stp0).b:Int)<(i:Nat)))
   ·
    have zM:=oF zx;refine lL hs [.v 33 qT,.v 34 qT,.m 35 34] (lG 36 ?_);refine lG 37 (lG 38 (lG 39 (lG 40 (lG 41 (lG 42 (lG 43 (lG 44 (lL hs [.v 45 qT] (lD ?_)))))))));intro a_ ka;exact ⟨_,⟨true,ye,rfl,hs.to _ _,(fun _=>by omega),(fun h_=>absurd h_ kD)⟩,ka.to _ kR⟩
   have zM:=oT zx;refine lL hs [.v 33 qF,.v 34 qF,.m 35 34,.v 36 (pB b7),.o 37 (iV ((l.getD i stp0).op)) 0 0 1] ?_;cases zi:(((l.getD i stp0).op:Int) != (1:Int))
   ·
    have zN:=eqOfBne zi;refine lB 38 zi (lL hs [.m 39 38] (lG 40 ?_));refine lG 41 (lG 42 (lG 43 (lL hs [.v 44 qF,.v 45 qF] (lD ?_))));intro a_ ka;exact ⟨_,⟨false,ye,rfl,hs.to _ _,(fun h_=>absurd h_ kD),(fun _=>by omega)⟩,ka.to _ kR⟩
   have zN:=neOfBne zi;refine lB 38 zi (lL hs [.m 39 38,.v 40 (qP b7 4),.o 41 (qv ((l.getD i stp0).q)) 0 4 5] (lC 42 hs (fSign (l.getD i stp0).q (hq.mono oM) _ _ hs.g) ?_));rintro _ _ yf hs rfl;cases zj:(((l.getD i stp0).q.num.sign:Int) != (0:Int))
   ·
    have zP:=eqOfBne zj;refine lB 43 zj (lL hs [.v 44 qF,.v 45 qF] (lD ?_));intro a_ ka;exact ⟨_,⟨false,yf,rfl,hs.to _ _,(fun h_=>absurd h_ kD),(fun _=>by omega)⟩,ka.to _ kR⟩
   have zP:=neOfBne zj;refine lB 43 zj (lL hs [.v 44 qT,.v 45 qT] (lD ?_));intro a_ ka;exact ⟨_,⟨true,yf,rfl,hs.to _ _,(fun _=>by omega),(fun h_=>absurd h_ kD)⟩,ka.to _ kR⟩
  rintro _ _ ⟨zs,_,rfl,hs,yi,hF45⟩;cases zk:(zs)
  ·
   try rw[zk] at hs
   try rw[zk]
   refine cIF (cK (cQ (cSL ?_)));have yl:=hF45 aM;refine lL hs [.v 46 (pB b7),.o 47 (iV ((l.getD i stp0).op)) 0 0 1] (lN (kZ (cSL ?_)));cases zl:(((l.getD i stp0).op:Int) == (2:Int))
   ·
    have zQ:=neOfBeq zl;refine lB 49 zl (lL hs [.m 48 49] (lN (cIF (cSL ?_))));cases zm:(((l.getD i stp0).op:Int) == (8:Int))
    ·
     have zR:=neOfBeq zm;refine lB 61 zm (lL hs [.m 60 61] (lN (cIF (cK (cSL (lL hs [.v 70 (qP b7 3),.o 71 (iV ((l.getD i stp0).n)) 0 3 1] ?_))))));cases zn:(((l.getD i stp0).n:Int) == (0:Int))
     ·
      have zS:=neOfBeq zn;exact lB 72 zn (lL hs [.m 4 72] (lN (kX (hs.ret [] qF (congrArg Value.bool (decide_eq_false (by unfold Formed Refers;omega)).symm)))))
     have zS:=eq_of_beq zn;exact lB 72 zn (lL hs [.m 4 72] (lN (kX (hs.ret [] qT (congrArg Value.bool (decide_eq_true (by unfold Formed Refers;omega)).symm)))))
    have zR:=eq_of_beq zm;refine lB 61 zm (lL hs [.m 60 61] (lN (cIT (cSL (lL hs [.v 62 (qP b7 3),.o 63 (iV ((l.getD i stp0).n)) 0 3 1] ?_)))));cases zo:(decide ((-12:Int)≤((l.getD i stp0).n:Int)))
    ·
     have zT:=oF zo;refine lB 64 zo (lL hs [.m 65 64] (lG 66 ?_));exact lG 67 (lG 68 (lL hs [.v 69 qF,.m 4 69] (lN (kX (hs.ret [] qF (congrArg Value.bool (decide_eq_false (by unfold Formed Refers;omega)).symm))))))
    have zT:=oT zo;refine lB 64 zo (lL hs [.m 65 64,.v 66 (qP b7 3),.o 67 (iV ((l.getD i stp0).n)) 0 3 1] ?_);cases zp:(decide (((l.getD i stp0).n:Int)≤(12:Int)))
    ·
     have zU:=oF zp;exact lB 68 zp (lL hs [.v 69 qF,.m 4 69] (lN (kX (hs.ret [] qF (congrArg Value.bool (decide_eq_false (by unfold Formed Refers;omega)).symm)))))
    have zU:=oT zp;exact lB 68 zp (lL hs [.v 69 qT,.m 4 69] (lN (kX (hs.ret [] qT (congrArg Value.bool (decide_eq_true (by unfold Formed Refers;omega)).symm)))))
   have zQ:=eq_of_beq zl;refine lB 49 zl (lL hs [.m 48 49] (lN (cIT (cSL (lL hs [.v 50 (qP b7 3),.o 51 (iV ((l.getD i stp0).n)) 0 3 1] ?_)))));cases zq:(decide ((0:Int)≤((l.getD i stp0).n:Int)))
   ·
    have zW:=oF zq;refine lB 52 zq (lL hs [.m 53 52] (lG 54 ?_));exact lG 55 (lG 56 (lG 57 (lG 58 (lL hs [.v 59 qF,.m 4 59] (lN (kX (hs.ret [] qF (congrArg Value.bool (decide_eq_false (by unfold Formed Refers;omega)).symm))))))))
   have zW:=oT zq;refine lB 52 zq (lL hs [.m 53 52,.v 54 (qP b7 3),.o 55 (iV ((l.getD i stp0).n)) 0 3 1,.v 56 (pB b1),.o 57 (iV inp) 2 0 1] ?_);cases zr:(decide (((l.getD i stp0).n:Int)<(inp:Int)))
   ·
    have zX:=oF zr;exact lB 58 zr (lL hs [.v 59 qF,.m 4 59] (lN (kX (hs.ret [] qF (congrArg Value.bool (decide_eq_false (by unfold Formed Refers;omega)).symm)))))
   have zX:=oT zr;exact lB 58 zr (lL hs [.v 59 qT,.m 4 59] (lN (kX (hs.ret [] qT (congrArg Value.bool (decide_eq_true (by unfold Formed Refers;omega)).symm)))))
  try rw[zk] at hs
  try rw[zk]
  refine cIT (cSL ?_);have yl:=yi aM;exact lL hs [.v 4 qF] (lN (kX (hs.ret [] qF (congrArg Value.bool (decide_eq_false (by unfold Formed Refers;omega)).symm))))
 have zA:=oT za;exact lB 17 za (lN (cIT (cSL (lL hs [.v 4 qF] (lN (kX (hs.ret [] qF (congrArg Value.bool (decide_eq_false (by unfold Formed Refers;omega)).symm))))))))
theorem tWeight (s:Stp)(V:Option Addr)(n c:Nat)(hv:List Int)(hn:hv.length=n)(k:Nat)(inp:Int)(hF:Formed inp k s)(hW:Wts hv k)(hk:k≤hv.length)(w:World)(h:Hp)(g:G w h)(hV:Si V hv h):CV 94 #[.agg #[iV s.op,iV s.a,iV s.b,iV s.n,.bool (ineg s.q.num),uV (lo (iabs s.q.num)),.string (hi (iabs s.q.num)),uV (lo (qd s.q)),.string (hi (qd s.q))],.slice V n c] w h (iV (weightS s hv)):=by
 have hs:=((sS g).aS hV);have hwb:=hW.weight hF;have hpw:=hW.pow hF;obtain ⟨f0,f1,f2,f3,f4,f5,f6⟩:=hF
 unfold Refers at f1 f2
 have hac:=ari_cases s.op;have hwa:=fun h0=>hW s.a.toNat h0
 have hwc:=fun h0=>hW s.b.toNat h0
 refine go Tryz.func94 [(0,.agg #[iV s.op,iV s.a,iV s.b,iV s.n,.bool (ineg s.q.num),uV (lo (iabs s.q.num)),.string (hi (iabs s.q.num)),uV (lo (qd s.q)),.string (hi (qd s.q))]),(1,qS V n c)] rfl (cSL (lA 2 110 ([iV s.op,iV s.a,iV s.b,iV s.n,.bool (ineg s.q.num),uV (lo (iabs s.q.num)),.string (hi (iabs s.q.num)),uV (lo (qd s.q)),.string (hi (qd s.q))]) hs (fun b1 w2 h3 hs=>lL hs [.v 4 (iV 0)] (lN (cQ (cSL (lL hs [.v 5 (pB b1),.o 6 (iV s.op) 0 0 1] (lC 7 hs (tArity s.op _ _ hs.g) ?_))))))));rintro _ w4 h5 hs rfl;refine lN (kZ (cSL ?_));cases hb6:((ari s.op:Int) == (0:Int))
 ·
  have phb6:=neOfBeq hb6;refine lB 9 hb6 (lL hs [.m 8 9] (lN (cIF (cSL ?_))));cases hb7:((ari s.op:Int) == (2:Int))
  ·
   have phb7:=neOfBeq hb7;refine lB 11 hb7 (lL hs [.m 10 11] (lN (cIF (cK (cQ (cSL (lL hs [.v 23 (pB b1),.o 24 (iV s.op) 0 0 1] (lN (kZ (cSL ?_))))))))));cases hb8:((s.op:Int) == (11:Int))
   ·
    have phb8:=neOfBeq hb8;refine lB 26 hb8 (lL hs [.m 25 26] (lN (cIF (cSL ?_))));cases hb9:((s.op:Int) == (8:Int))
    ·
     have phb9:=neOfBeq hb9;refine lB 34 hb9 (lL hs [.m 33 34] (lN (cIF (cK (cSL (lL hs [.m 47 1,.v 48 (qP b1 1),.o 49 (iV s.a) 0 1 1] (lX 50 V n c 1 s.a s.a.toNat ((hs.f.1).ok oM) ?_)))))));exact lH 51 (iV (hv.getD s.a.toNat 0)) hs ((hs.f.1).el s.a.toNat oM) (lL hs [.m 4 51] (lN (kX (hs.ret [] (iV (hv.getD s.a.toNat 0)) (congrArg (Value.int .i64) (by unfold weightS;first|(rw[if_pos oM])|(rw[if_neg oM,if_pos oM])|(rw[if_neg oM,if_neg oM,if_pos oM])|(rw[if_neg oM,if_neg oM,if_neg oM,if_pos oM])|(rw[if_neg oM,if_neg oM,if_neg oM,if_neg oM])))))))
    have phb9:=eq_of_beq hb9;refine lB 34 hb9 (lL hs [.m 33 34] (lN (cIT (cQ (cR 12 [] mixed hs al_nil ?_)))));refine eV 0 35 (qP b1 3) (eO 1 36 [(0,3,1)] (iV s.n) hs (eV 2 37 (qP b1 3) (eO 3 38 [(0,3,1)] (iV s.n) hs (eI 4 39 (0-s.n) (eV 5 40 (iV (max (max (s.n:Int) (0-s.n:Int)) (1:Int))) ?_ (hv:=fun _=>rint (n:=(if (1:Int)>(if (0-s.n:Int)>(s.n:Int) then (0-s.n:Int) else (s.n:Int)) then (1:Int) else (if (0-s.n:Int)>(s.n:Int) then (0-s.n:Int) else (s.n:Int)))) kR (by simp only[imax2])))))));exact eV 6 41 (qS V n c) (eV 7 42 (qP b1 1) (eO 8 43 [(0,1,1)] (iV s.a) hs (eX 9 44 V n c 1 s.a s.a.toNat ((hs.f.1).ok oM) (eH 10 45 (iV (hv.getD s.a.toNat 0)) hs ((hs.f.1).el s.a.toNat oM) (eI 11 46 ((max (max (s.n:Int) (0-s.n:Int)) (1:Int))*(hv.getD s.a.toNat 0)) (eD0 hs (fun _ _ hs=>tV 12 4 (iV ((max (max (s.n:Int) (0-s.n:Int)) (1:Int))*(hv.getD s.a.toNat 0))) (tN (kX (hs.ret [] (iV ((max (max (s.n:Int) (0-s.n:Int)) (1:Int))*(hv.getD s.a.toNat 0))) (congrArg (Value.int .i64) (by unfold weightS;first|(rw[if_pos oM])|(rw[if_neg oM,if_pos oM])|(rw[if_neg oM,if_neg oM,if_pos oM])|(rw[if_neg oM,if_neg oM,if_neg oM,if_pos oM])|(rw[if_neg oM,if_neg oM,if_neg oM,if_neg oM])))))))))))))
   have phb8:=eq_of_beq hb8;refine lB 26 hb8 (lL hs [.m 25 26] (lN (cIT (cSL (lL hs [.m 27 1,.v 28 (qP b1 1),.o 29 (iV s.a) 0 1 1] (lX 30 V n c 1 s.a s.a.toNat ((hs.f.1).ok oM) ?_))))));exact lH 31 (iV (hv.getD s.a.toNat 0)) hs ((hs.f.1).el s.a.toNat oM) (lI 32 (2*(hv.getD s.a.toNat 0)) (lL hs [.m 4 32] (lN (kX (hs.ret [] (iV (2*(hv.getD s.a.toNat 0))) (congrArg (Value.int .i64) (by unfold weightS;first|(rw[if_pos oM])|(rw[if_neg oM,if_pos oM])|(rw[if_neg oM,if_neg oM,if_pos oM])|(rw[if_neg oM,if_neg oM,if_neg oM,if_pos oM])|(rw[if_neg oM,if_neg oM,if_neg oM,if_neg oM]))))))))
  have phb7:=eq_of_beq hb7;refine lB 11 hb7 (lL hs [.m 10 11] (lN (cIT (cQ (cR 11 [] mixed hs al_nil ?_)))));exact eV 0 12 (qS V n c) (eV 1 13 (qP b1 1) (eO 2 14 [(0,1,1)] (iV s.a) hs (eX 3 15 V n c 1 s.a s.a.toNat ((hs.f.1).ok oM) (eH 4 16 (iV (hv.getD s.a.toNat 0)) hs ((hs.f.1).el s.a.toNat oM) (eV 5 17 (qS V n c) (eV 6 18 (qP b1 2) (eO 7 19 [(0,2,1)] (iV s.b) hs (eX 8 20 V n c 1 s.b s.b.toNat ((hs.f.1).ok oM) (eH 9 21 (iV (hv.getD s.b.toNat 0)) hs ((hs.f.1).el s.b.toNat oM) (eI 10 22 ((hv.getD s.a.toNat 0)+(hv.getD s.b.toNat 0)) (eD0 hs (fun _ _ hs=>tV 11 4 (iV ((hv.getD s.a.toNat 0)+(hv.getD s.b.toNat 0))) (tN (kX (hs.ret [] (iV ((hv.getD s.a.toNat 0)+(hv.getD s.b.toNat 0))) (congrArg (Value.int .i64) (by unfold weightS;first|(rw[if_pos oM])|(rw[if_neg oM,if_pos oM])|(rw[if_neg oM,if_neg oM,if_pos oM])|(rw[if_neg oM,if_neg oM,if_neg oM,if_pos oM])|(rw[if_neg oM,if_neg oM,if_neg oM,if_neg oM]))))))))))))))))))
 have phb6:=eq_of_beq hb6;exact lB 9 hb6 (lL hs [.m 8 9] (lN (cIT (cSL (lL hs [.v 4 (iV 1)] (lN (kX (hs.ret [] (iV 1) (congrArg (Value.int .i64) (by unfold weightS;first|(rw[if_pos oM])|(rw[if_neg oM,if_pos oM])|(rw[if_neg oM,if_neg oM,if_pos oM])|(rw[if_neg oM,if_neg oM,if_neg oM,if_pos oM])|(rw[if_neg oM,if_neg oM,if_neg oM,if_neg oM])))))))))))
theorem tCheck (inp:Int)(A:Option Addr)(c:Nat)(l:List Stp)(O:Option Addr)(d:Nat)(os:List Int)(hl:l.length≤1000000)(ho:os.length≤1000000)(hq:∀ i,i<l.length→LQ 1 (l.getD i stp0).q)(w:World)(h:Hp)(g:G w h)(hA:SlO 9 stc stp0 h A l)(hO:Si O os h):CV 44 #[.agg #[iV inp,.slice A ((l).length) c,.slice O ((os).length) d]] w h (iV (chkTp inp l os)):=by
 have hs:=(((sS g).aS hA).aS hO);refine go Tryz.func44 [(0,.agg #[iV inp,qS A ((l).length) c,qS O ((os).length) d])] rfl (cSL (lA 1 36 ([iV inp,qS A ((l).length) c,qS O ((os).length) d]) hs (fun b1 w2 h3 hs=>lL hs [.v 2 (iV 0)] (lN (cQ (cSL (lL hs [.v 8 (pB b1),.o 9 (iV inp) 0 0 1] ?_)))))));cases hb4:(decide ((inp:Int)<(0:Int)))
 ·
  have phb4:=oF hb4;refine lB 10 hb4 (lL hs [.m 11 10,.v 12 (pB b1),.o 13 (iV inp) 0 0 1] ?_);cases hb5:(decide ((1000:Int)<(inp:Int)))
  ·
   have phb5:=oF hb5;refine lB 14 hb5 (lL hs [.v 15 qF,.m 16 15,.v 17 (qP b1 1),.o 18 (qS A ((l).length) c) 0 1 1,.v 19 (nV ((l).length))] ?_);cases hb6:(decide ((65536:Int)<(((l).length:Nat):Int)))
   ·
    have phb6:=oF hb6;refine lB 20 hb6 (lL hs [.v 21 qF,.m 22 21,.v 23 (qP b1 2),.o 24 (qS O ((os).length) d) 0 2 1,.v 25 (nV ((os).length))] ?_);cases hb7:(decide ((300:Int)<(((os).length:Nat):Int)))
    ·
     have phb7:=oF hb7;refine lB 26 hb7 (lL hs [.v 27 qF] (lN (cIF (cK (cSL (lL hs [.v 28 (qP b1 1),.o 29 (qS A ((l).length) c) 0 1 1,.v 30 (nV ((l).length))] (lK 31 3 ((l).length) 1 8 (iV 0) i64c (0:Int) hs (fun b8 w9 zp hs=>?_))))))));have zn:(List.replicate ((l).length) (0:Int)).length=((l).length):=by simp
     refine lL hs [.m 3 31] (lN (cQ (cSL (lL hs [.v 32 (qP b1 1),.o 33 (qS A ((l).length) c) 1 1 1,.v 34 (nV ((l).length)),.v 35 (iV 0)] (lN (kZ ?_))))));have hsh:0≤inp∧inp≤1000∧l.length≤65536∧os.length≤300:=by omega
     refine cTo _ (CG.loop (fun μ_ Γ w_=>∃ (k:Nat) (L:List Int) (h_:Hp),μ_=l.length-k∧Γ=[(1,pB b1),(3,qS (sB b8) ((l).length) ((l).length)),(33,qS A ((l).length) c),(34,nV ((l).length)),(35,nV k)]∧SS w h w_ h_ [⟨b8,3,(L).flatMap i64c⟩,⟨b1,36,[iV inp,qS A ((l).length) c,qS O ((os).length) d]⟩] [] [Si O os,fun h_=>SlO 9 stc stp0 h_ A l]∧k≤l.length∧L.length=l.length∧Wts L k∧goS inp l []=goS inp (l.drop k) (L.take k)) _ ⟨0,List.replicate ((l).length) (0:Int),zp,rfl,rfl,hs.to _ _,Nat.zero_le _,zn,fun j hj=>absurd hj (Nat.not_lt_zero j),rfl⟩ ?_);rintro _ _ _ ⟨k,L,zq,hm14,rfl,hs,hk,hlL,hWt,hgo⟩;refine cSL ?_;cases za:(decide ((k:Int)<(((l).length:Nat):Int)))
     ·
      have zg:=oF za;refine lB 36 za (lN (cQ (cIF (CG.exit ?_))))
      show CG _ _ _ _ _ _ _ _
      refine cQ (cSL (lL hs [.v 56 (qP b1 2),.o 57 (qS O ((os).length) d) 1 2 1,.v 58 (nV ((os).length)),.v 59 (iV 0)] (lN (kZ ?_))));refine cTo _ (CG.loop (fun μ_ Γ w_=>∃ (j:Nat) (h_:Hp),μ_=os.length-j∧Γ=[(1,pB b1),(57,qS O ((os).length) d),(58,nV ((os).length)),(59,nV j)]∧SS w h w_ h_ [⟨b8,3,(L).flatMap i64c⟩,⟨b1,36,[iV inp,qS A ((l).length) c,qS O ((os).length) d]⟩] [] [Si O os,fun h_=>SlO 9 stc stp0 h_ A l]∧j≤os.length∧(∀ i,i<j→0≤os.getD i 0∧os.getD i 0<l.length)) _ ⟨0,zq,rfl,rfl,hs.to _ _,Nat.zero_le _,fun j hj=>absurd hj (Nat.not_lt_zero j)⟩ ?_);rintro _ _ _ ⟨j,zr,hm18,rfl,hs,hj,hou⟩;refine cSL ?_;cases zb:(decide ((j:Int)<(((os).length:Nat):Int)))
      ·
       have zi:=oF zb;refine lB 60 zb (lN (cQ (cIF (CG.exit ?_))))
       show CG _ _ _ _ _ _ _ _
       exact cSL (lL hs [.v 2 (iV 0)] (lN (kX (hs.ret [] (iV 0) (congrArg (Value.int .i64) (chkTp_ok hsh (by rw[hgo,List.drop_eq_nil_of_le oM];rfl) (fun i hi=>hou i oM)).symm)))))
      have zi:=oT zb;refine lB 60 zb (lN (cQ (cIT (cK (cQ (kZ (cSL (lX 61 O ((os).length) d 1 (j:Nat) j ((hs.f.1).ok oM) ?_))))))));refine lH 62 (iV (os.getD j 0)) hs ((hs.f.1).el j oM) (lL hs [.m 7 62] (lNS (lL hs [.m 63 7] ?_)));cases zc:(decide ((os.getD j 0:Int)<(0:Int)))
      ·
       have zj:=oF zc;refine lB 64 zc (lL hs [.m 65 64,.m 66 7,.v 67 (qP b1 1),.o 68 (qS A ((l).length) c) 1 1 1,.v 69 (nV ((l).length))] ?_);cases zd:(decide ((((l).length:Nat):Int)≤(os.getD j 0:Int)))
       ·
        have zk:=oF zd;refine lB 70 zd (lL hs [.v 71 qF] (lN (cIF (cK (kQ (lIn 72 ((j:Nat)+1) (j+1) ?_))))));refine lL hs [.m 59 72] (lD ?_);intro a_ ka;refine ⟨_,_,?_,⟨j+1,zr,rfl,rfl,hs.to _ _,oM,(fun i hi=>by by_cases e:i=j;(subst e;omega);exact hou i oM)⟩,ka.to _ kR⟩
        omega
       have zk:=oT zd;exact lB 70 zd (lL hs [.v 71 qT] (lN (cIT (cSL (lL hs [.v 2 (iV 1)] (lN (kX (hs.ret [] (iV 1) (congrArg (Value.int .i64) (chkTp_arg hsh (by rw[hgo,List.drop_eq_nil_of_le oM];rfl) (fun h_=>by have:=h_ j oM;omega)).symm)))))))))
      have zj:=oT zc;refine lB 64 zc (lL hs [.m 65 64] (lG 66 ?_));exact lG 67 (lG 68 (lG 69 (lG 70 (lL hs [.v 71 qT] (lN (cIT (cSL (lL hs [.v 2 (iV 1)] (lN (kX (hs.ret [] (iV 1) (congrArg (Value.int .i64) (chkTp_arg hsh (by rw[hgo,List.drop_eq_nil_of_le oM];rfl) (fun h_=>by have:=h_ j oM;omega)).symm))))))))))))
     have zg:=oT za;refine lB 36 za (lN (cQ (cIT (cK (cQ (kZ (cSL (lL hs [.m 37 35] (lX 38 A ((l).length) c 9 (k:Nat) k ((hs.f.2.1).ok oM) ?_)))))))));refine lH 39 (.agg #[iV ((l.getD k stp0).op),iV ((l.getD k stp0).a),iV ((l.getD k stp0).b),iV ((l.getD k stp0).n),.bool (ineg ((l.getD k stp0).q).num),uV (lo (iabs ((l.getD k stp0).q).num)),.string (hi (iabs ((l.getD k stp0).q).num)),uV (lo (qd ((l.getD k stp0).q))),.string (hi (qd ((l.getD k stp0).q)))]) hs ((hs.f.2.1).el k oM) (lA 5 110 ([iV 0,iV 0,iV 0,iV 0,qF,uV 0,eS,uV 0,eS]) hs (fun zs _ _ hs=>lL hs [.m 4 37] (lP 0 0 ([iV ((l.getD k stp0).op),iV ((l.getD k stp0).a),iV ((l.getD k stp0).b),iV ((l.getD k stp0).n),.bool (ineg ((l.getD k stp0).q).num),uV (lo (iabs ((l.getD k stp0).q).num)),.string (hi (iabs ((l.getD k stp0).q).num)),uV (lo (qd ((l.getD k stp0).q))),.string (hi (qd ((l.getD k stp0).q)))]) hs (fun _ hs=>lN (cQ (cSL (lL hs [.o 40 (.agg #[iV inp,qS A ((l).length) c,qS O ((os).length) d]) 2 0 3,.m 41 4] (lC 42 hs (tFormed inp A c l O d os k oM oM (hq k oM) _ _ hs.g hs.f.2.1 hs.f.1) ?_))))))));rintro _ _ _ hs rfl;cases zf:(decide (Formed inp k (l.getD k stp0)))
     ·
      have zl:=oF zf;exact lL hs [.v 43 qT] (lN (cIT (cSL (lL hs [.v 2 (iV 2)] (lN (kX (hs.ret [] (iV 2) (congrArg (Value.int .i64) ((chkTp_go hsh (by rw[hgo,goS_bad oM (by simp;omega) ‹¬Formed inp k (l.getD k stp0)›];decide)).trans (hgo.trans (goS_bad oM (by simp;omega) ‹¬Formed inp k (l.getD k stp0)›))).symm))))))))
     have zl:=oT zf;refine lL hs [.v 43 qF] (lN (cIF (cK (cSL (lL hs [.m 44 3,.m 45 4,.o 46 (.agg #[iV ((l.getD k stp0).op),iV ((l.getD k stp0).a),iV ((l.getD k stp0).b),iV ((l.getD k stp0).n),.bool (ineg ((l.getD k stp0).q).num),uV (lo (iabs ((l.getD k stp0).q).num)),.string (hi (iabs ((l.getD k stp0).q).num)),uV (lo (qd ((l.getD k stp0).q))),.string (hi (qd ((l.getD k stp0).q)))]) 0 0 9,.m 47 3] (lCl 48 1 hs (fun _ g_ f_ sg_=>tWeight (l.getD k stp0) (sB b8) ((l).length) ((l).length) L hlL k inp ‹Formed inp k (l.getD k stp0)› hWt oM _ _ g_ (SlO.of_flat (sz:=1) (f:=i64c) (d:=0) (b:=b8) (o:=0) (l:=L) (fun _=>rfl) sg_)) ?_))))));rintro _ _ zt hs rfl;have hws:=hWt.weight ‹Formed inp k (l.getD k stp0)›;have hgs:(L.set k (weightS (l.getD k stp0) L)).getD k 0=weightS (l.getD k stp0) L:=by rw[List.getD_eq_getElem?_getD,List.getElem?_set_self oM];rfl
     refine lX 49 (sB b8) ((l).length) ((l).length) 1 (k:Nat) k rfl (lW 1 L i64c 1 k (weightS (l.getD k stp0) L) hs oM (fun _ hs=>?_));have zo:((L).set k (weightS (l.getD k stp0) L)).length=((l).length):=by rw[List.length_set];exact hlL
     replace hs:=hs.to [⟨zs,110,[iV ((l.getD k stp0).op),iV ((l.getD k stp0).a),iV ((l.getD k stp0).b),iV ((l.getD k stp0).n),.bool (ineg ((l.getD k stp0).q).num),uV (lo (iabs ((l.getD k stp0).q).num)),.string (hi (iabs ((l.getD k stp0).q).num)),uV (lo (qd ((l.getD k stp0).q))),.string (hi (qd ((l.getD k stp0).q)))]⟩,⟨b8,3,((L).set k (weightS (l.getD k stp0) L)).flatMap i64c⟩,⟨b1,36,[iV inp,qS A ((l).length) c,qS O ((os).length) d]⟩] [];refine lNS (lL hs [.m 50 3,.m 51 4] (lX 52 (sB b8) ((l).length) ((l).length) 1 (k:Nat) k rfl ?_));refine lQ 53 1 ((L).set k (weightS (l.getD k stp0) L)) i64c 1 0 k (iV (((L).set k (weightS (l.getD k stp0) L)).getD k 0)) hs oM ?_;cases ze:(decide ((65536:Int)<(((L).set k (weightS (l.getD k stp0) L)).getD k 0:Int)))
     ·
      have zm:=oF ze;refine lB 54 ze (lN (cIF (cK (kQ (lIn 55 ((k:Nat)+1) (k+1) ?_)))));refine lL hs [.m 35 55] (lD ?_);intro a_ ka;replace hs:=hs.drop 1 0;refine ⟨_,_,?_,⟨k+1,(L).set k (weightS (l.getD k stp0) L),zt,rfl,rfl,hs.to _ _,oM,zo,(hWt.snoc oM hws.1 oM),(hgo.trans ((goS_step oM (by simp;omega) ‹Formed inp k (l.getD k stp0)› (by rw[weight_take ‹Formed inp k (l.getD k stp0)›];omega)).trans (by rw[weight_take ‹Formed inp k (l.getD k stp0)›,take_set_snoc oM])))⟩,ka.to _ kR⟩
      omega
     have zm:=oT ze;exact lB 54 ze (lN (cIT (cSL (lL hs [.v 2 (iV 18)] (lN (kX (hs.ret [] (iV 18) (congrArg (Value.int .i64) ((chkTp_go hsh (by rw[hgo,goS_over oM (by simp;omega) ‹Formed inp k (l.getD k stp0)› (by rw[weight_take ‹Formed inp k (l.getD k stp0)›];omega)];decide)).trans (hgo.trans (goS_over oM (by simp;omega) ‹Formed inp k (l.getD k stp0)› (by rw[weight_take ‹Formed inp k (l.getD k stp0)›];omega)))).symm))))))))
    have phb7:=oT hb7;exact lB 26 hb7 (lL hs [.v 27 qT] (lN (cIT (cSL (lL hs [.v 2 (iV 5)] (lN (kX (hs.ret [] (iV 5) (congrArg (Value.int .i64) (chkTp_shape oM).symm)))))))))
   have phb6:=oT hb6;refine lB 20 hb6 (lL hs [.v 21 qT,.m 22 21] (lG 23 ?_));exact lG 24 (lG 25 (lG 26 (lL hs [.v 27 qT] (lN (cIT (cSL (lL hs [.v 2 (iV 5)] (lN (kX (hs.ret [] (iV 5) (congrArg (Value.int .i64) (chkTp_shape oM).symm)))))))))))
  have phb5:=oT hb5;refine lB 14 hb5 (lL hs [.v 15 qT,.m 16 15] (lG 17 ?_));refine lG 18 (lG 19 (lG 20 (lL hs [.v 21 qT,.m 22 21] (lG 23 ?_))));exact lG 24 (lG 25 (lG 26 (lL hs [.v 27 qT] (lN (cIT (cSL (lL hs [.v 2 (iV 5)] (lN (kX (hs.ret [] (iV 5) (congrArg (Value.int .i64) (chkTp_shape oM).symm)))))))))))
 have phb4:=oT hb4;refine lB 10 hb4 (lL hs [.m 11 10] (lG 12 ?_));refine lG 13 (lG 14 (lL hs [.v 15 qT,.m 16 15] (lG 17 ?_)));refine lG 18 (lG 19 (lG 20 (lL hs [.v 21 qT,.m 22 21] (lG 23 ?_))));exact lG 24 (lG 25 (lG 26 (lL hs [.v 27 qT] (lN (cIT (cSL (lL hs [.v 2 (iV 5)] (lN (kX (hs.ret [] (iV 5) (congrArg (Value.int .i64) (chkTp_shape oM).symm)))))))))))
theorem terr_stopL {sm:Bool}{l:List Stp}{at_ L:List Rat}{k n:Nat}{e:Int}(h0:terr sm l at_ k=0)(hk:k<n)(hL:∀ j,L.getD j 0=(tvals l at_ k).getD j 0)(h:serr sm (l.getD k stp0) L=e)(he:e≠0):terr sm l at_ n=e:=by
  have e1:serr sm (l.getD k stp0) (tvals l at_ k)=e:=by rw[←h];unfold serr;rw[hL,hL]
  rw[terr_stop h0 hk (by rw[e1];exact he),e1]
theorem terr_next {sm:Bool}{l:List Stp}{at_ L:List Rat}{k:Nat}(h0:terr sm l at_ k=0)(hL:∀ j,L.getD j 0=(tvals l at_ k).getD j 0)(h:serr sm (l.getD k stp0) L=0):terr sm l at_ (k+1)=0:=by
  refine terr_step h0 ?_;rw[←h];unfold serr;rw[hL,hL]
theorem serr_2 {sm:Bool}{s:Stp}{v:List Rat}(h:s.op=2):serr sm s v=0:=if_pos h
theorem serr_0 {sm:Bool}{s:Stp}{v:List Rat}(h:okq s.op s.n (v.getD s.a.toNat 0) (v.getD s.b.toNat 0))(h2:¬(sm=true∧knk s.op (v.getD s.a.toNat 0) (v.getD s.b.toNat 0))):serr sm s v=0:=by
  by_cases e:s.op=2
  · exact if_pos e
  · unfold serr;rw[if_neg e,if_pos h,if_neg h2]
theorem serr_6 {sm:Bool}{s:Stp}{v:List Rat}(h2:s.op≠2)(h:¬okq s.op s.n (v.getD s.a.toNat 0) (v.getD s.b.toNat 0)):serr sm s v=6:=by
  unfold serr;rw[if_neg h2,if_neg h]
theorem serr_7 {s:Stp}{v:List Rat}(h2:s.op≠2)(h:okq s.op s.n (v.getD s.a.toNat 0) (v.getD s.b.toNat 0))(h3:knk s.op (v.getD s.a.toNat 0) (v.getD s.b.toNat 0)):serr true s v=7:=by
  unfold serr;rw[if_neg h2,if_pos h,if_pos ⟨rfl,h3⟩]
theorem vals_set {l:List Stp}{at_ L:List Rat}{k:Nat}{x:Rat}(hk:k<L.length)(hL:∀ j,L.getD j 0=(tvals l at_ k).getD j 0)(hx:x=sval (l.getD k stp0) at_ L):∀ j,(L.set k x).getD j 0=(tvals l at_ (k+1)).getD j 0:=fun j=>by
  have e1:sval (l.getD k stp0) at_ L=sval (l.getD k stp0) at_ (tvals l at_ k):=by unfold sval;rw[hL,hL]
  have hl:=tvals_len l at_ k
  show _=(tvals l at_ k++[_]).getD j 0
  rw[getD_set_ hk,getD_snoc,hl,←e1,←hx]
  by_cases e:j=k
  · rw[if_pos e,if_neg oM,if_pos e]
  · rw[if_neg e,hL j]
    by_cases h:j<k
    · rw[if_pos h]
    · rw[if_neg h,if_neg e,getD_outR oM]
theorem list_ext {a b:List Rat}(h:a.length=b.length)(hv:∀ j,a.getD j 0=b.getD j 0):a=b:=by
  refine List.ext_getElem h (fun i h1 h2=>?_);have:=hv i
  simpa [h1,h2] using this
def vlist (sm:Bool)(l:List Stp)(at_:List Rat):List Rat:=if terr sm l at_ l.length=0 then tvals l at_ l.length else []
theorem pick_of {vs R:List Rat}{os:List Int}(hl:R.length=os.length)(h:∀ j,j<os.length→R.getD j 0=vs.getD (os.getD j 0).toNat 0):R=pickL vs os:=by
  refine list_ext (by unfold pickL;rw[List.length_map];exact hl) (fun j=>?_)
  by_cases hj:j<os.length
  · rw[h j hj];unfold pickL
    have e:(os.map fun o=>vs.getD o.toNat 0).getD j 0=vs.getD (os.getD j 0).toNat 0:=by simp[List.getD_eq_getElem?_getD,hj]
    exact e.symm
  · rw[getD_outR oM,getD_outR (by unfold pickL;rw[List.length_map];omega)]
theorem goS_all {inp:Int}:∀ {l:List Stp} {hv:List Int},goS inp l hv=0→∀ j,j<l.length→Formed inp (hv.length+j) (l.getD j stp0)
  | [],_,_,j,hj=>by simp at hj
  | s :: r,hv,h,j,hj=>by
    unfold goS at h
    split at h
    · rename_i hf
      split at h
      · exact absurd h kD
      · cases j with
        | zero=>exact hf
        | succ j =>
          have:=goS_all h j (by simpa using hj);rw[List.length_append,List.length_singleton] at this
          rw[show hv.length+(j+1)=hv.length+1+j by omega];exact this
    · exact absurd h kD
theorem chk_formed {inp:Int}{l:List Stp}{os:List Int}(h:chkTp inp l os=0):(∀ k,k<l.length→Formed inp k (l.getD k stp0))∧OutsOk l.length os∧0≤inp∧inp≤1000∧l.length≤65536∧os.length≤300:=by
  unfold chkTp at h
  split at h
  · rename_i h1
    split at h
    · rename_i h2
      split at h
      · rename_i h3
        exact ⟨fun k hk=>by have:=goS_all h2 k hk;simpa using this,h3,h1⟩
      · exact absurd h kD
    · rename_i h2;exact absurd h h2
  · exact absurd h kD
section
variable {sm:Bool} {inp:Int} {l:List Stp} {os:List Int} {at_:List Rat}
end
theorem tValues_true (inp:Int)(A:Option Addr)(c:Nat)(l:List Stp)(O:Option Addr)(d:Nat)(os:List Int)(at_:List Rat)(X:Option Addr)(cX:Nat)(hF:∀ k,k<l.length→Formed inp k (l.getD k stp0))(hl:l.length≤65536)(hat:(at_.length:Int)=inp)(hq:∀ i,LQ 1 (l.getD i stp0).q)(hB:∀ k,k≤l.length→terr true l at_ k=0→∀ j,LQ 1000000 ((tvals l at_ k).getD j 0))(w:World)(h:Hp)(g:G w h)(hA:SlO 9 stc stp0 h A l)(hO:Si O os h)(hX:Sq X at_ h)(tb:Tab h):CR 45 #[.agg #[iV inp,.slice A ((l).length) c,.slice O ((os).length) d],.slice X at_.length cX,.bool true] w h (fun v h1=>∃ A c,v=.tuple #[.slice A (vlist true l at_).length c,iV (terr true l at_ l.length)]∧(vlist true l at_).length≤c∧Sq A (vlist true l at_) h1):=by
 have hs:=(((((sS g).aS hA).aS hO).aS hX).aB tb);refine go Tryz.func45 [(0,.agg #[iV inp,qS A ((l).length) c,qS O ((os).length) d]),(1,qS X at_.length cX),(2,qT)] rfl (cSL (lA 3 36 ([iV inp,qS A ((l).length) c,qS O ((os).length) d]) hs (fun b1 w2 h3 hs=>lL hs [.v 6 (sZ),.v 7 (iV 0)] (lNS (lL hs [.v 15 (qP b1 1),.o 16 (qS A ((l).length) c) 0 1 1,.v 17 (nV ((l).length))] (lK 18 55 ((l).length) 5 56 (.agg #[qF,uV 0,eS,uV 0,eS]) qc 0 hs (fun b4 w5 h6 hs=>?_)))))));have hl7:(List.replicate ((l).length) 0).length=((l).length):=by simp
 refine lL hs [.m 8 18] (lN (cQ (cSL (lL hs [.v 19 (qP b1 1),.o 20 (qS A ((l).length) c) 1 1 1,.v 21 (nV ((l).length)),.v 22 (iV 0)] (lN (kZ ?_))))));refine cTo _ (CG.loop (fun μ_ Γ w_=>∃ (k:Nat) (L:List Rat) (h_:Hp),μ_=l.length-k∧Γ=[(1,qS X at_.length cX),(2,qT),(8,qS (sB b4) ((l).length) ((l).length)),(20,qS A ((l).length) c),(21,nV ((l).length)),(22,nV k)]∧SS w h w_ h_ [⟨b4,55,(L).flatMap qc⟩,⟨b1,36,[iV inp,qS A ((l).length) c,qS O ((os).length) d]⟩] [] [fun h_=>Tab h_,Sq X at_,Si O os,fun h_=>SlO 9 stc stp0 h_ A l]∧k≤l.length∧L.length=l.length∧(∀ j,L.getD j 0=(tvals l at_ k).getD j 0)∧terr true l at_ k=0) _ ⟨0,List.replicate l.length (0:Rat),h6,rfl,rfl,hs.to _ _,Nat.zero_le _,(by simp),(fun j=>by rw[rep_zero];rfl),rfl⟩ ?_);rintro _ _ w8 ⟨k,L,h9,hm10,rfl,hs,hk,hLl,hLv,hter⟩;have hLb:∀ j,LQ 1000000 (L.getD j 0):=fun j=>by rw[hLv j];exact hB k hk hter j
 refine cSL ?_;cases zb:(decide ((k:Int)<(((l).length:Nat):Int)))
 ·
  have zg:=oF zb;refine lB 23 zb (lN (cQ (cIF (CG.exit ?_))))
  show CG _ _ _ _ _ _ _ _
  refine cSL (lL hs [.m 69 8,.m 6 69,.v 7 (iV 0)] (lN (kX ?_)));have hkn:k=l.length:=by omega
  rw[hkn] at hLv hter
  have hvl:vlist true l at_=L:=by unfold vlist;rw[if_pos hter];exact (list_ext (by rw[tvals_len,hLl]) hLv).symm
  obtain ⟨_,hs,sg13,lo14,bc15⟩:=hs.pub 0;replace hs:=(hs.to [⟨b1,36,[iV inp,qS A ((l).length) c,qS O ((os).length) d]⟩] []).aS (SlO.of_flat (sz:=5) (f:=qc) (d:=0) (b:=b4) (o:=0) (l:=L) (fun _=>rfl) sg13);exact hs.ret [] (.tuple #[qS (sB b4) ((l).length) ((l).length),iV 0]) (by rw[hter,hvl,hLl];exact ⟨_,_,rfl,nR _,hs.f.1⟩)
 have zg:=oT zb;refine lB 23 zb (lN (cQ (cIT (cK (cQ (kZ (cSL (lL hs [.m 24 22] (lX 25 A ((l).length) c 9 (k:Nat) k ((hs.f.r.2.1).ok oM) ?_)))))))));refine lH 26 (.agg #[iV ((l.getD k stp0).op),iV ((l.getD k stp0).a),iV ((l.getD k stp0).b),iV ((l.getD k stp0).n),.bool (ineg ((l.getD k stp0).q).num),uV (lo (iabs ((l.getD k stp0).q).num)),.string (hi (iabs ((l.getD k stp0).q).num)),uV (lo (qd ((l.getD k stp0).q))),.string (hi (qd ((l.getD k stp0).q)))]) hs ((hs.f.r.2.1).el k oM) (lA 10 110 ([iV 0,iV 0,iV 0,iV 0,qF,uV 0,eS,uV 0,eS]) hs (fun za _ zm hs=>lL hs [.m 9 24] (lP 0 0 ([iV ((l.getD k stp0).op),iV ((l.getD k stp0).a),iV ((l.getD k stp0).b),iV ((l.getD k stp0).n),.bool (ineg ((l.getD k stp0).q).num),uV (lo (iabs ((l.getD k stp0).q).num)),.string (hi (iabs ((l.getD k stp0).q).num)),uV (lo (qd ((l.getD k stp0).q))),.string (hi (qd ((l.getD k stp0).q)))]) hs (fun _ hs=>lN (cQ (cSL ?_))))));have fk:=hF k oM;obtain ⟨f0,f1,f2,f3,f4,f5,f6⟩:=fk
 dsimp only[Refers] at f1 f2
 have hac:=ari_cases (l.getD k stp0).op;refine lL hs [.v 27 (pB za),.o 28 (iV ((l.getD k stp0).op)) 0 0 1] ?_;cases zc:(((l.getD k stp0).op:Int) == (2:Int))
 ·
  have zi:=neOfBeq zc;refine lB 29 zc (lN (cIF (cK (cQ ?_))));have hsr:=hs;refine cRz 12 [⟨10,11,.cells (List.toArray [qF,uV 0,eS,uV 0,eS]) 55 (0,0)⟩,⟨11,12,.cells (List.toArray [qF,uV 0,eS,uV 0,eS]) 55 (0,0)⟩] [] mixed hs (al_cons (alOk kR (fun _ _=>by kernel_rfl)) (al_cons (alOk kR (fun _ _=>by kernel_rfl)) al_nil)) (eV 0 38 (qS (sB b4) ((l).length) ((l).length)) (eV 1 39 (qP za 1) (eO 2 40 [(0,1,1)] (iV ((l.getD k stp0).a)) hs (eX 3 41 (sB b4) ((l).length) ((l).length) 5 ((l.getD k stp0).a) ((l.getD k stp0).a.toNat) rfl (eQz 4 42 1 L qc 5 0 ((l.getD k stp0).a.toNat) (qv ((L).getD ((l.getD k stp0).a.toNat) 0)) hsr hs oM (eV 5 43 (qS (sB b4) ((l).length) ((l).length)) (eV 6 44 (qP za 2) (eOz 7 45 [(0,2,1)] (iV ((l.getD k stp0).b)) hsr hs (eX 8 46 (sB b4) ((l).length) ((l).length) 5 ((l.getD k stp0).b) ((l.getD k stp0).b.toNat) rfl (eQz 9 47 1 L qc 5 0 ((l.getD k stp0).b.toNat) (qv ((L).getD ((l.getD k stp0).b.toNat) 0)) hsr hs oM (eD2z hsr hs 55 [qF,uV 0,eS,uV 0,eS] 55 [qF,uV 0,eS,uV 0,eS] (fun _ _ zn zo hz26 hz27 hs=>tP 12 0 0 (qc ((L).getD ((l.getD k stp0).a.toNat) 0)) hs (fun _ hs=>?_) (hz:=tlz_new hz26)))))))))))));refine tP 13 1 0 (qc ((L).getD ((l.getD k stp0).b.toNat) 0)) hs (fun _ hs=>?_) (hz:=tlz_new hz27);refine tNS (lL hs [.o 49 (.agg #[iV ((l.getD k stp0).op),iV ((l.getD k stp0).a),iV ((l.getD k stp0).b),iV ((l.getD k stp0).n),.bool (ineg ((l.getD k stp0).q).num),uV (lo (iabs ((l.getD k stp0).q).num)),.string (hi (iabs ((l.getD k stp0).q).num)),uV (lo (qd ((l.getD k stp0).q))),.string (hi (qd ((l.getD k stp0).q)))]) 2 0 9,.o 50 (qv ((L).getD ((l.getD k stp0).a.toNat) 0)) 0 0 5,.o 51 (qv ((L).getD ((l.getD k stp0).b.toNat) 0)) 1 0 5] (lC 52 hs (tApply (l.getD k stp0) (L.getD (l.getD k stp0).a.toNat 0) (L.getD (l.getD k stp0).b.toNat 0) 1000000 oM (hLb _) (hLb _) (hq k) oM oM oM _ _ hs.g hs.f.1) ?_));rintro _ _ _ hs rfl;refine lL hs [.m 48 52,.v 53 (qv (apv (l.getD k stp0).op (l.getD k stp0).n (l.getD k stp0).q (L.getD (l.getD k stp0).a.toNat 0) (L.getD (l.getD k stp0).b.toNat 0))),.v 54 (.bool (decide (okq (l.getD k stp0).op (l.getD k stp0).n (L.getD (l.getD k stp0).a.toNat 0) (L.getD (l.getD k stp0).b.toNat 0))))] (lA 13 55 ([qF,uV 0,eS,uV 0,eS]) hs (fun zd _ _ hs=>lP 0 0 (qc (apv (l.getD k stp0).op (l.getD k stp0).n (l.getD k stp0).q (L.getD (l.getD k stp0).a.toNat 0) (L.getD (l.getD k stp0).b.toNat 0))) hs (fun _ hs=>lL hs [.m 14 54] (lN (cQ (cSL (lL hs [.m 55 14] ?_)))))));cases ze:(!(decide (okq (l.getD k stp0).op (l.getD k stp0).n (L.getD (l.getD k stp0).a.toNat 0) (L.getD (l.getD k stp0).b.toNat 0))))
  ·
   refine lB 56 ze (lN (cIF (cK (cQ (cSL ?_)))));have hok_:okq (l.getD k stp0).op (l.getD k stp0).n (L.getD (l.getD k stp0).a.toNat 0) (L.getD (l.getD k stp0).b.toNat 0):=by simpa using ‹(!decide (okq (l.getD k stp0).op (l.getD k stp0).n (L.getD (l.getD k stp0).a.toNat 0) (L.getD (l.getD k stp0).b.toNat 0)))=false›
   refine lL hs [.m 57 2,.m 58 57,.o 59 (.agg #[iV ((l.getD k stp0).op),iV ((l.getD k stp0).a),iV ((l.getD k stp0).b),iV ((l.getD k stp0).n),.bool (ineg ((l.getD k stp0).q).num),uV (lo (iabs ((l.getD k stp0).q).num)),.string (hi (iabs ((l.getD k stp0).q).num)),uV (lo (qd ((l.getD k stp0).q))),.string (hi (qd ((l.getD k stp0).q)))]) 3 0 9,.o 60 (qv ((L).getD ((l.getD k stp0).a.toNat) 0)) 1 0 5,.o 61 (qv ((L).getD ((l.getD k stp0).b.toNat) 0)) 2 0 5] (lC 62 hs (tKinked (l.getD k stp0) (L.getD (l.getD k stp0).a.toNat 0) (L.getD (l.getD k stp0).b.toNat 0) 1000000 oM (hLb _) (hLb _) _ _ hs.g) ?_);rintro _ _ zp hs rfl;cases zf:(decide (knk (l.getD k stp0).op (L.getD (l.getD k stp0).a.toNat 0) (L.getD (l.getD k stp0).b.toNat 0)))
   ·
    have zj:=oF zf;refine lL hs [.v 63 qF] (lN (cTo [(1,qS X at_.length cX),(2,qT),(8,qS (sB b4) ((l).length) ((l).length)),(20,qS A ((l).length) c),(21,nV ((l).length)),(22,nV k),(9,nV k),(13,pB zd),(63,qF)] ?_));refine cIF (cK (kQ ?_));have hnk_:¬knk (l.getD k stp0).op (L.getD (l.getD k stp0).a.toNat 0) (L.getD (l.getD k stp0).b.toNat 0):=oF ‹decide (knk (l.getD k stp0).op (L.getD (l.getD k stp0).a.toNat 0) (L.getD (l.getD k stp0).b.toNat 0))=false›;refine lL hs [.m 64 8,.m 65 9,.o 66 (qv (apv (l.getD k stp0).op (l.getD k stp0).n (l.getD k stp0).q (L.getD (l.getD k stp0).a.toNat 0) (L.getD (l.getD k stp0).b.toNat 0))) 0 0 5] (lX 67 (sB b4) ((l).length) ((l).length) 5 (k:Nat) k rfl ?_);refine lW 4 L qc 5 k (apv (l.getD k stp0).op (l.getD k stp0).n (l.getD k stp0).q (L.getD (l.getD k stp0).a.toNat 0) (L.getD (l.getD k stp0).b.toNat 0)) hs oM (fun _ hs=>?_);have zk:((L).set k (apv (l.getD k stp0).op (l.getD k stp0).n (l.getD k stp0).q (L.getD (l.getD k stp0).a.toNat 0) (L.getD (l.getD k stp0).b.toNat 0))).length=((l).length):=by rw[List.length_set];exact hLl
    replace hs:=hs.to [⟨zd,55,qc (apv (l.getD k stp0).op (l.getD k stp0).n (l.getD k stp0).q (L.getD (l.getD k stp0).a.toNat 0) (L.getD (l.getD k stp0).b.toNat 0))⟩,⟨zn,55,qc ((L).getD ((l.getD k stp0).a.toNat) 0)⟩,⟨zo,55,qc ((L).getD ((l.getD k stp0).b.toNat) 0)⟩,⟨za,110,[iV ((l.getD k stp0).op),iV ((l.getD k stp0).a),iV ((l.getD k stp0).b),iV ((l.getD k stp0).n),.bool (ineg ((l.getD k stp0).q).num),uV (lo (iabs ((l.getD k stp0).q).num)),.string (hi (iabs ((l.getD k stp0).q).num)),uV (lo (qd ((l.getD k stp0).q))),.string (hi (qd ((l.getD k stp0).q)))]⟩,⟨b4,55,((L).set k (apv (l.getD k stp0).op (l.getD k stp0).n (l.getD k stp0).q (L.getD (l.getD k stp0).a.toNat 0) (L.getD (l.getD k stp0).b.toNat 0))).flatMap qc⟩,⟨b1,36,[iV inp,qS A ((l).length) c,qS O ((os).length) d]⟩] [];refine lN (kQ (lIn 68 ((k:Nat)+1) (k+1) ?_));refine lL hs [.m 22 68] (lD ?_);intro a_ ka;replace hs:=hs.drop 4 0;refine ⟨_,_,?_,⟨k+1,(L).set k (apv (l.getD k stp0).op (l.getD k stp0).n (l.getD k stp0).q (L.getD (l.getD k stp0).a.toNat 0) (L.getD (l.getD k stp0).b.toNat 0)),zp,rfl,rfl,hs.to _ _,oM,zk,(vals_set oM hLv (by unfold sval apv;rw[if_neg (show ¬(l.getD k stp0).op=2 by omega),if_pos hok_])),(terr_next hter hLv (serr_0 hok_ (fun h_=>hnk_ h_.2)))⟩,ka.to _ kR⟩
    omega
   have zj:=oT zf;refine lL hs [.v 63 qT] (lN (cTo [(1,qS X at_.length cX),(2,qT),(8,qS (sB b4) ((l).length) ((l).length)),(20,qS A ((l).length) c),(21,nV ((l).length)),(22,nV k),(9,nV k),(13,pB zd),(63,qT)] ?_));refine cIT (cSL ?_);have hkn_:knk (l.getD k stp0).op (L.getD (l.getD k stp0).a.toNat 0) (L.getD (l.getD k stp0).b.toNat 0):=oT ‹decide (knk (l.getD k stp0).op (L.getD (l.getD k stp0).a.toNat 0) (L.getD (l.getD k stp0).b.toNat 0))=true›;refine lL hs [.v 6 (sZ),.v 7 (iV 7)] (lN (kX ?_));have hend:terr true l at_ l.length=7:=terr_stopL hter oM hLv (serr_7 oM hok_ hkn_) kD;have hvl:vlist true l at_=[]:=by unfold vlist;rw[if_neg (by rw[hend];decide)]
   exact hs.ret [] (.tuple #[sZ,iV 7]) (by rw[hend,hvl];exact ⟨none,0,rfl,nR _,SlO.nil⟩)
  refine lB 56 ze (lN (cIT (cSL ?_)));have hnok_:¬okq (l.getD k stp0).op (l.getD k stp0).n (L.getD (l.getD k stp0).a.toNat 0) (L.getD (l.getD k stp0).b.toNat 0):=by simpa using ‹(!decide (okq (l.getD k stp0).op (l.getD k stp0).n (L.getD (l.getD k stp0).a.toNat 0) (L.getD (l.getD k stp0).b.toNat 0)))=true›
  refine lL hs [.v 6 (sZ),.v 7 (iV 6)] (lN (kX ?_));have hend:terr true l at_ l.length=6:=terr_stopL hter oM hLv (serr_6 oM hnok_) kD;have hvl:vlist true l at_=[]:=by unfold vlist;rw[if_neg (by rw[hend];decide)]
  exact hs.ret [] (.tuple #[sZ,iV 6]) (by rw[hend,hvl];exact ⟨none,0,rfl,nR _,SlO.nil⟩)
 have zi:=eq_of_beq zc;refine lB 29 zc (lN (cIT (cSL (lL hs [.m 30 8,.m 31 9,.m 32 1,.v 33 (qP za 3),.o 34 (iV ((l.getD k stp0).n)) 0 3 1] (lX 35 X at_.length cX 5 ((l.getD k stp0).n) ((l.getD k stp0).n.toNat) ((hs.f.2.1).ok oM) ?_)))));refine lH 36 (qv (at_.getD ((l.getD k stp0).n.toNat) 0)) hs ((hs.f.2.1).el ((l.getD k stp0).n.toNat) oM) (lX 37 (sB b4) ((l).length) ((l).length) 5 (k:Nat) k rfl (lW 1 L qc 5 k (at_.getD ((l.getD k stp0).n.toNat) 0) hs oM (fun _ hs=>?_)));have zl:((L).set k (at_.getD ((l.getD k stp0).n.toNat) 0)).length=((l).length):=by rw[List.length_set];exact hLl
 replace hs:=hs.to [⟨za,110,[iV ((l.getD k stp0).op),iV ((l.getD k stp0).a),iV ((l.getD k stp0).b),iV ((l.getD k stp0).n),.bool (ineg ((l.getD k stp0).q).num),uV (lo (iabs ((l.getD k stp0).q).num)),.string (hi (iabs ((l.getD k stp0).q).num)),uV (lo (qd ((l.getD k stp0).q))),.string (hi (qd ((l.getD k stp0).q)))]⟩,⟨b4,55,((L).set k (at_.getD ((l.getD k stp0).n.toNat) 0)).flatMap qc⟩,⟨b1,36,[iV inp,qS A ((l).length) c,qS O ((os).length) d]⟩] [];refine lN (CG.exit ?_)
 show CG _ _ _ _ _ _ _ _
 refine kQ (lIn 68 ((k:Nat)+1) (k+1) ?_);refine lL hs [.m 22 68] (lD ?_);intro a_ ka;replace hs:=hs.drop 1 0;refine ⟨_,_,?_,⟨k+1,(L).set k (at_.getD ((l.getD k stp0).n.toNat) 0),zm,rfl,rfl,hs.to _ _,oM,zl,(vals_set oM hLv (by unfold sval;rw[if_pos (show (l.getD k stp0).op=2 by omega)])),(terr_next hter hLv (serr_2 oM))⟩,ka.to _ kR⟩
 omega
theorem tOuts (inp:Int)(A:Option Addr)(c:Nat)(l:List Stp)(O:Option Addr)(d:Nat)(os:List Int)(vs:List Rat)(V:Option Addr)(cV:Nat)(ho:os.length≤1000)(hO2:OutsOk vs.length os)(w:World)(h:Hp)(g:G w h)(hA:SlO 9 stc stp0 h A l)(hO:Si O os h)(hV:Sq V vs h):CR 46 #[.agg #[iV inp,.slice A ((l).length) c,.slice O ((os).length) d],.slice V vs.length cV] w h (fun v h1=>∃ A c,v=.slice A (pickL vs os).length c∧(pickL vs os).length≤c∧Sq A (pickL vs os) h1):=by
 have hs:=((((sS g).aS hA).aS hO).aS hV);refine go Tryz.func46 [(0,.agg #[iV inp,qS A ((l).length) c,qS O ((os).length) d]),(1,qS V vs.length cV)] rfl (cSL (lA 2 36 ([iV inp,qS A ((l).length) c,qS O ((os).length) d]) hs (fun b1 w2 h3 hs=>lL hs [.v 4 (sZ)] (lNS (lL hs [.v 8 (qP b1 2),.o 9 (qS O ((os).length) d) 0 2 1,.v 10 (nV ((os).length))] (lK 11 55 ((os).length) 5 56 (.agg #[qF,uV 0,eS,uV 0,eS]) qc 0 hs (fun b4 w5 h6 hs=>?_)))))));have hl7:(List.replicate ((os).length) 0).length=((os).length):=by simp
 refine lL hs [.m 5 11] (lN (cQ (cSL (lL hs [.v 12 (qP b1 2),.o 13 (qS O ((os).length) d) 1 2 1,.v 14 (nV ((os).length)),.v 15 (iV 0)] (lN (kZ ?_))))));refine cTo _ (CG.loop (fun μ_ Γ w_=>∃ (k:Nat) (R:List Rat) (h_:Hp),μ_=os.length-k∧Γ=[(1,qS V vs.length cV),(4,sZ),(5,qS (sB b4) ((os).length) ((os).length)),(13,qS O ((os).length) d),(14,nV ((os).length)),(15,nV k)]∧SS w h w_ h_ [⟨b4,55,(R).flatMap qc⟩,⟨b1,36,[iV inp,qS A ((l).length) c,qS O ((os).length) d]⟩] [] [Sq V vs,Si O os,fun h_=>SlO 9 stc stp0 h_ A l]∧k≤os.length∧R.length=os.length∧(∀ j,j<k→R.getD j 0=vs.getD (os.getD j 0).toNat 0)) _ ⟨0,List.replicate os.length (0:Rat),h6,rfl,rfl,hs.to _ _,Nat.zero_le _,(by simp),fun j hj=>absurd hj (Nat.not_lt_zero j)⟩ ?_);rintro _ _ w8 ⟨k,R,h9,hm10,rfl,hs,hk,hRl,hRv⟩;have hok:=fun h0=>hO2 k h0
 refine cSL ?_;cases za:(decide ((k:Int)<(((os).length:Nat):Int)))
 ·
  have zb:=oF za;refine lB 16 za (lN (cQ (cIF (CG.exit ?_))))
  show CG _ _ _ _ _ _ _ _
  refine cSL (lL hs [.m 28 5,.m 4 28] (lN (kX ?_)));have hkn:k=os.length:=by omega
  have hpl:pickL vs os=R:=(pick_of oM (fun j hj=>hRv j oM)).symm;obtain ⟨_,hs,sg13,lo14,bc15⟩:=hs.pub 0;replace hs:=(hs.to [⟨b1,36,[iV inp,qS A ((l).length) c,qS O ((os).length) d]⟩] []).aS (SlO.of_flat (sz:=5) (f:=qc) (d:=0) (b:=b4) (o:=0) (l:=R) (fun _=>rfl) sg13);exact hs.ret [] (qS (sB b4) ((os).length) ((os).length)) (by rw[hpl,hRl];exact ⟨_,_,rfl,nR _,hs.f.1⟩)
 have zb:=oT za;refine lB 16 za (lN (cQ (cIT (cK (cQ (kZ (cSL (lL hs [.m 17 15] (lX 18 O ((os).length) d 1 (k:Nat) k ((hs.f.2.1).ok oM) ?_)))))))));refine lH 19 (iV (os.getD k 0)) hs ((hs.f.2.1).el k oM) (lL hs [.m 6 17,.m 7 19] (lN (kQ (lL hs [.m 20 5,.m 21 6,.m 22 1,.m 23 7] (lX 24 V vs.length cV 5 (os.getD k 0) ((os.getD k 0).toNat) ((hs.f.1).ok oM) ?_)))));refine lH 25 (qv (vs.getD ((os.getD k 0).toNat) 0)) hs ((hs.f.1).el ((os.getD k 0).toNat) oM) (lX 26 (sB b4) ((os).length) ((os).length) 5 (k:Nat) k rfl (lW 0 R qc 5 k (vs.getD ((os.getD k 0).toNat) 0) hs oM (fun _ hs=>?_)));have zc:((R).set k (vs.getD ((os.getD k 0).toNat) 0)).length=((os).length):=by rw[List.length_set];exact hRl
 replace hs:=hs.to [⟨b4,55,((R).set k (vs.getD ((os.getD k 0).toNat) 0)).flatMap qc⟩,⟨b1,36,[iV inp,qS A ((l).length) c,qS O ((os).length) d]⟩] [];refine lN (kQ (lIn 27 ((k:Nat)+1) (k+1) ?_));refine lL hs [.m 15 27] (lD ?_);intro a_ ka;refine ⟨_,_,?_,⟨k+1,(R).set k (vs.getD ((os.getD k 0).toNat) 0),h9,rfl,rfl,hs.to _ _,oM,zc,(fun j hj=>by rw[getD_set_ oM];split;(rename_i e;rw[e]);exact hRv j oM)⟩,ka.to _ kR⟩
 omega
theorem rKids (op:Int)(w:World)(h:Hp)(g:G w h):CV 50 #[iV op] w h (iV (ari op)):=by
 have hs:=sS g;refine go Tryz.func50 [(0,iV op)] rfl (cSL (lL hs [.v 2 (iV 0)] (lN (cQ (cSL (lL hs [.m 3 0] (lN (kZ (cQ (cSL ?_))))))))));cases hb1:((op:Int) == (1:Int))
 ·
  have phb1:=neOfBeq hb1;refine lB 5 hb1 (lL hs [.m 4 5] (lN (cIF (kQ ?_))));cases hb2:((op:Int) == (2:Int))
  ·
   have phb2:=neOfBeq hb2;refine lB 6 hb2 (lL hs [.m 4 6] (lN (cIF (cQ (cSL ?_)))));cases hb3:((op:Int) == (7:Int))
   ·
    have phb3:=neOfBeq hb3;refine lB 8 hb3 (lL hs [.m 7 8] (lN (cIF (cSL ?_))));cases hb4:((op:Int) == (8:Int))
    ·
     have phb4:=neOfBeq hb4;refine lB 9 hb4 (lL hs [.m 7 9] (lN (cIF (cSL ?_))));cases hb5:((op:Int) == (9:Int))
     ·
      have phb5:=neOfBeq hb5;refine lB 10 hb5 (lL hs [.m 7 10] (lN (cIF (cSL ?_))));cases hb6:((op:Int) == (10:Int))
      ·
       have phb6:=neOfBeq hb6;refine lB 11 hb6 (lL hs [.m 7 11] (lN (cIF (kQ ?_))));cases hb7:((op:Int) == (11:Int))
       ·
        have phb7:=neOfBeq hb7;refine lB 12 hb7 (lL hs [.m 7 12] (lN (cIF (cQ (cSL ?_)))));cases hb8:((op:Int) == (3:Int))
        ·
         have phb8:=neOfBeq hb8;refine lB 14 hb8 (lL hs [.m 13 14] (lN (cIF (cSL ?_))));cases hb9:((op:Int) == (4:Int))
         ·
          have phb9:=neOfBeq hb9;refine lB 15 hb9 (lL hs [.m 13 15] (lN (cIF (cSL ?_))));cases za:((op:Int) == (5:Int))
          ·
           have ze:=neOfBeq za;refine lB 16 za (lL hs [.m 13 16] (lN (cIF (cSL ?_))));cases zb:((op:Int) == (6:Int))
           ·
            have zf:=neOfBeq zb;refine lB 17 zb (lL hs [.m 13 17] (lN (cIF (cSL ?_))));cases zc:((op:Int) == (12:Int))
            ·
             have zg:=neOfBeq zc;refine lB 18 zc (lL hs [.m 13 18] (lN (cIF (kQ ?_))));cases zd:((op:Int) == (13:Int))
             ·
              have zi:=neOfBeq zd;exact lB 19 zd (lL hs [.m 13 19] (lN (cIF (cK (cSL (lL hs [.v 2 (iV (-1))] (lN (kX (hs.ret [] (iV (-1)) (congrArg (Value.int .i64) (by have:=ari_cases op;omega)))))))))))
             have zi:=eq_of_beq zd;exact lB 19 zd (lL hs [.m 13 19] (lN (cIT (cSL (lL hs [.v 2 (iV 2)] (lN (kX (hs.ret [] (iV 2) (congrArg (Value.int .i64) (by have:=ari_cases op;omega))))))))))
            have zg:=eq_of_beq zc;exact lB 18 zc (lL hs [.m 13 18] (lN (cIT (cK (cIT (cSL (lL hs [.v 2 (iV 2)] (lN (kX (hs.ret [] (iV 2) (congrArg (Value.int .i64) (by have:=ari_cases op;omega))))))))))))
           have zf:=eq_of_beq zb;exact lB 17 zb (lL hs [.m 13 17] (lN (cIT (cK (cIT (cSL (lL hs [.v 2 (iV 2)] (lN (kX (hs.ret [] (iV 2) (congrArg (Value.int .i64) (by have:=ari_cases op;omega))))))))))))
          have ze:=eq_of_beq za;exact lB 16 za (lL hs [.m 13 16] (lN (cIT (cK (cIT (cSL (lL hs [.v 2 (iV 2)] (lN (kX (hs.ret [] (iV 2) (congrArg (Value.int .i64) (by have:=ari_cases op;omega))))))))))))
         have phb9:=eq_of_beq hb9;exact lB 15 hb9 (lL hs [.m 13 15] (lN (cIT (cK (cIT (cSL (lL hs [.v 2 (iV 2)] (lN (kX (hs.ret [] (iV 2) (congrArg (Value.int .i64) (by have:=ari_cases op;omega))))))))))))
        have phb8:=eq_of_beq hb8;exact lB 14 hb8 (lL hs [.m 13 14] (lN (cIT (cK (cIT (cSL (lL hs [.v 2 (iV 2)] (lN (kX (hs.ret [] (iV 2) (congrArg (Value.int .i64) (by have:=ari_cases op;omega))))))))))))
       have phb7:=eq_of_beq hb7;exact lB 12 hb7 (lL hs [.m 7 12] (lN (cIT (cSL (lL hs [.v 2 (iV 1)] (lN (kX (hs.ret [] (iV 1) (congrArg (Value.int .i64) (by have:=ari_cases op;omega))))))))))
      have phb6:=eq_of_beq hb6;exact lB 11 hb6 (lL hs [.m 7 11] (lN (cIT (cK (cIT (cSL (lL hs [.v 2 (iV 1)] (lN (kX (hs.ret [] (iV 1) (congrArg (Value.int .i64) (by have:=ari_cases op;omega))))))))))))
     have phb5:=eq_of_beq hb5;exact lB 10 hb5 (lL hs [.m 7 10] (lN (cIT (cK (cIT (cSL (lL hs [.v 2 (iV 1)] (lN (kX (hs.ret [] (iV 1) (congrArg (Value.int .i64) (by have:=ari_cases op;omega))))))))))))
    have phb4:=eq_of_beq hb4;exact lB 9 hb4 (lL hs [.m 7 9] (lN (cIT (cK (cIT (cSL (lL hs [.v 2 (iV 1)] (lN (kX (hs.ret [] (iV 1) (congrArg (Value.int .i64) (by have:=ari_cases op;omega))))))))))))
   have phb3:=eq_of_beq hb3;exact lB 8 hb3 (lL hs [.m 7 8] (lN (cIT (cK (cIT (cSL (lL hs [.v 2 (iV 1)] (lN (kX (hs.ret [] (iV 1) (congrArg (Value.int .i64) (by have:=ari_cases op;omega))))))))))))
  have phb2:=eq_of_beq hb2;exact lB 6 hb2 (lL hs [.m 4 6] (lN (cIT (cSL (lL hs [.v 2 (iV 0)] (lN (kX (hs.ret [] (iV 0) (congrArg (Value.int .i64) (by have:=ari_cases op;omega))))))))))
 have phb1:=eq_of_beq hb1;exact lB 5 hb1 (lL hs [.m 4 5] (lN (cIT (cK (cIT (cSL (lL hs [.v 2 (iV 0)] (lN (kX (hs.ret [] (iV 0) (congrArg (Value.int .i64) (by have:=ari_cases op;omega))))))))))))
theorem rIntSgz (z:Int)(A:Option Addr)(c:Nat)(w:World)(h:Hp)(g:G w h)(hA:S3 A (lim (iabs z)) h):CV 162 #[.agg #[.bool (ineg z),.slice A ((lim (iabs z)).length) c]] w h (iV z.sign):=by
 have hs:=((sS g).aS hA);have hlz:0<(lim (iabs z)).length↔0<iabs z:=lim_pos
 unfold iabs at hlz
 refine go Tryz.func162 [(0,.agg #[.bool (ineg z),qS A ((lim (iabs z)).length) c])] rfl (cSL (lA 1 95 ([.bool (ineg z),qS A ((lim (iabs z)).length) c]) hs (fun b1 w2 h3 hs=>lL hs [.v 2 (iV 0)] (lN (cQ (kZ (cSL (lL hs [.v 4 (qP b1 1),.o 5 (qS A ((lim (iabs z)).length) c) 0 1 1,.v 6 (nV ((lim (iabs z)).length))] ?_))))))));cases hb4:((((lim (iabs z)).length:Nat):Int) == (0:Int))
 ·
  have phb4:=neOfBeq hb4;refine lB 7 hb4 (lL hs [.m 3 7] (lN (cIF (cSL (lL hs [.v 9 (pB b1),.o 10 (.bool (ineg z)) 0 0 1,.m 8 10] (lN ?_))))));cases hb5:(ineg z)
  ·
   try rw[hb5] at hs
   try rw[hb5]
   have phb5:=ineg_false hb5;exact cIF (cK (cSL (lL hs [.v 2 (iV 1)] (lN (kX (hs.ret [] (iV 1) (congrArg (Value.int .i64) (by first|(rw[show z=0 by (unfold iabs at *;omega)];rfl)|exact (Int.sign_eq_neg_one_of_neg oM).symm|exact (Int.sign_eq_one_of_pos (by unfold iabs at *;omega)).symm))))))))
  try rw[hb5] at hs
  try rw[hb5]
  have phb5:=ineg_true hb5;exact cIT (cSL (lL hs [.v 2 (iV (-1))] (lN (kX (hs.ret [] (iV (-1)) (congrArg (Value.int .i64) (by first|(rw[show z=0 by (unfold iabs at *;omega)];rfl)|exact (Int.sign_eq_neg_one_of_neg oM).symm|exact (Int.sign_eq_one_of_pos (by unfold iabs at *;omega)).symm)))))))
 have phb4:=eq_of_beq hb4;exact lB 7 hb4 (lL hs [.m 3 7] (lN (cIT (cSL (lL hs [.v 2 (iV 0)] (lN (kX (hs.ret [] (iV 0) (congrArg (Value.int .i64) (by first|(rw[show z=0 by (unfold iabs at *;omega)];rfl)|exact (Int.sign_eq_neg_one_of_neg oM).symm|exact (Int.sign_eq_one_of_pos (by unfold iabs at *;omega)).symm))))))))))
theorem rSgz (z:Int)(A:Option Addr)(c n:Nat)(D:Option Addr)(d:Nat)(hc:(lim (iabs z)).length≤c)(hd:(lim n).length≤d)(w:World)(h:Hp)(g:G w h)(hA:S3 A (lim (iabs z)) h)(hD:S3 D (lim n) h):CV 107 #[.agg #[.bool (ineg z),.slice A ((lim (iabs z)).length) c,.slice D ((lim n).length) d]] w h (iV z.sign):=by
 have hs:=(((sS g).aS hA).aS hD);refine go Tryz.func107 [(0,.agg #[.bool (ineg z),qS A ((lim (iabs z)).length) c,qS D ((lim n).length) d])] rfl (cSL (lA 1 97 ([.bool (ineg z),qS A ((lim (iabs z)).length) c,qS D ((lim n).length) d]) hs (fun b1 w2 h3 hs=>lL hs [.v 2 (iV 0)] (lNS (lL hs [.v 3 (pB b1),.o 4 (.agg #[.bool (ineg z),qS A ((lim (iabs z)).length) c]) 0 0 2] (lC 5 hs (rIntSgz z A c _ _ hs.g hs.f.2.1) ?_))))));rintro _ w4 h5 hs rfl;exact lL hs [.m 2 5] (lN (kX (hs.ret [] (iV z.sign) rfl)))
theorem rZero (z:Int)(A:Option Addr)(c n:Nat)(D:Option Addr)(d:Nat)(hc:(lim (iabs z)).length≤c)(hd:(lim n).length≤d)(w:World)(h:Hp)(g:G w h)(hA:S3 A (lim (iabs z)) h)(hD:S3 D (lim n) h):CV 103 #[.agg #[.bool (ineg z),.slice A ((lim (iabs z)).length) c,.slice D ((lim n).length) d]] w h (.bool (decide (n=0∨z=0))):=by
 have hs:=(((sS g).aS hA).aS hD);have hln:0<(lim n).length↔0<n:=lim_pos;refine go Tryz.func103 [(0,.agg #[.bool (ineg z),qS A ((lim (iabs z)).length) c,qS D ((lim n).length) d])] rfl (cSL (lA 1 97 ([.bool (ineg z),qS A ((lim (iabs z)).length) c,qS D ((lim n).length) d]) hs (fun b1 w2 h3 hs=>lL hs [.v 2 qF] (lNS (lL hs [.v 3 (qP b1 2),.o 4 (qS D ((lim n).length) d) 0 2 1,.v 5 (nV ((lim n).length))] ?_)))));cases hb4:((((lim n).length:Nat):Int) == (0:Int))
 ·
  have phb4:=neOfBeq hb4;refine lB 6 hb4 (lL hs [.m 7 6,.o 8 (.agg #[.bool (ineg z),qS A ((lim (iabs z)).length) c,qS D ((lim n).length) d]) 0 0 3] (lC 9 hs (rSgz z A c n D d hc hd _ _ hs.g hs.f.2.1 hs.f.1) ?_));rintro _ w5 h6 hs rfl;have hsg:z.sign=0↔z=0:=Int.sign_eq_zero_iff_zero;cases hb7:((z.sign:Int) == (0:Int))
  ·
   have phb7:=neOfBeq hb7;exact lB 10 hb7 (lL hs [.v 11 qF,.m 2 11] (lN (kX (hs.ret [] qF (congrArg Value.bool (decide_eq_false oM).symm)))))
  have phb7:=eq_of_beq hb7;exact lB 10 hb7 (lL hs [.v 11 qT,.m 2 11] (lN (kX (hs.ret [] qT (congrArg Value.bool (decide_eq_true oM).symm)))))
 have phb4:=eq_of_beq hb4;refine lB 6 hb4 (lL hs [.m 7 6] (lG 8 ?_));exact lG 9 (lG 10 (lL hs [.v 11 qT,.m 2 11] (lN (kX (hs.ret [] qT (congrArg Value.bool (decide_eq_true oM).symm))))))
def weighS (op n sum:Int):Int:=if op=11 then 2*sum else if op=8∧n≠0 then sum*(if n<0 then 0-n else n) else sum
theorem mulb {a n:Int}(h:0≤a∧a≤1000000)(hn : -12≤n∧n≤12) : -12000000≤a*n∧a*n≤12000000:=by
  have h1:(a*n).natAbs≤1000000*12:=by rw[Int.natAbs_mul];exact Nat.mul_le_mul oM oM
  omega
theorem rWeigh (op n sum:Int)(hs0:0≤sum∧sum≤1000000)(hn:op=8 → -12≤n∧n≤12)(w:World)(h:Hp)(g:G w h):CV 102 #[iV op,iV n,iV sum] w h (iV (weighS op n sum)):=by
 have hs:=sS g;have hmn:min (sum:Int) (1073741824:Int)=sum:=by omega
 have hq1:=fun h8:op=8=>mulb hs0 (hn h8)
 have hq2:=fun h8:op=8=>mulb (n:=0-n) hs0 (by have:=hn h8;omega)
 rw[←hmn] at hq1 hq2
 have hq3:n≤0→(min (sum:Int) (1073741824:Int))*n≤0∧0≤(min (sum:Int) (1073741824:Int))*(0-n):=fun h_=>⟨Int.mul_nonpos_of_nonneg_of_nonpos oM h_,Int.mul_nonneg oM oM⟩
 have hq4:0≤n→0≤(min (sum:Int) (1073741824:Int))*n:=fun h_=>Int.mul_nonneg oM h_
 refine go Tryz.func102 [(0,iV op),(1,iV n),(2,iV sum)] rfl (cSL (lL hs [.v 6 (iV 0)] (lN (cQ (kZ (cSL (lL hs [.m 8 0] ?_)))))));cases hb1:((op:Int) == (11:Int))
 ·
  have phb1:=neOfBeq hb1;refine lB 9 hb1 (lL hs [.m 7 9] (lN (cIF (cSL (lL hs [.m 13 0] ?_)))));cases hb2:((op:Int) == (8:Int))
  ·
   have phb2:=neOfBeq hb2;refine lB 14 hb2 (lL hs [.m 15 14] (lG 16 ?_));refine lG 17 (lL hs [.v 18 qF,.m 12 18] (lN (cIF (cK (cSL (lL hs [.m 33 2] (lV 34 (iV (min (sum:Int) (1073741824:Int))) ?_ (hr:=rint (n:=(if (1073741824:Int)<(sum:Int) then (1073741824:Int) else (sum:Int))) kR (by simp only[imin2])))))))));exact lL hs [.m 6 34] (lN (kX (hs.ret [] (iV (min (sum:Int) (1073741824:Int))) (congrArg (Value.int .i64) (by unfold weighS;first|(rw[if_pos oM];omega)|(rw[if_neg oM,if_pos oM,if_pos oM];rw[hmn] at *;omega)|(rw[if_neg oM,if_pos oM,if_neg oM];rw[hmn] at *;omega)|(rw[if_neg oM,if_neg oM];omega))))))
  have phb2:=eq_of_beq hb2;refine lB 14 hb2 (lL hs [.m 15 14,.m 16 1] ?_);cases hb3:((n:Int) != (0:Int))
  ·
   have phb3:=eqOfBne hb3;refine lB 17 hb3 (lL hs [.v 18 qF,.m 12 18] (lN (cIF (cK (cSL (lL hs [.m 33 2] (lV 34 (iV (min (sum:Int) (1073741824:Int))) ?_ (hr:=rint (n:=(if (1073741824:Int)<(sum:Int) then (1073741824:Int) else (sum:Int))) kR (by simp only[imin2])))))))));exact lL hs [.m 6 34] (lN (kX (hs.ret [] (iV (min (sum:Int) (1073741824:Int))) (congrArg (Value.int .i64) (by unfold weighS;first|(rw[if_pos oM];omega)|(rw[if_neg oM,if_pos oM,if_pos oM];rw[hmn] at *;omega)|(rw[if_neg oM,if_pos oM,if_neg oM];rw[hmn] at *;omega)|(rw[if_neg oM,if_neg oM];omega))))))
  have phb3:=neOfBne hb3;refine lB 17 hb3 (lL hs [.v 18 qT,.m 12 18] (lN (cIT (cQ (cSL (lL hs [.m 19 1] ?_))))));cases hb4:(decide ((n:Int)<(0:Int)))
  ·
   have phb4:=oF hb4;refine lB 20 hb4 (lN (cIF (cK (cQ (cSL (lL hs [.m 23 1] ?_))))));have ⟨hb5,phb5⟩:=dF (p:=(n:Int)<(0:Int)) oM;refine lB 24 hb5 (lL hs [.m 25 24,.m 26 1] ?_);cases hb6:(decide ((1073741824:Int)<(n:Int)))
   ·
    have phb6:=oF hb6;refine lB 27 hb6 (lL hs [.v 28 qF] (lN (cIF (cK (kQ (lL hs [.m 29 2] (lV 30 (iV (min (sum:Int) (1073741824:Int))) ?_ (hr:=rint (n:=(if (1073741824:Int)<(sum:Int) then (1073741824:Int) else (sum:Int))) kR (by simp only[imin2])))))))));refine lL hs [.m 31 1] (lI 32 ((min (sum:Int) (1073741824:Int))*n) ?_);refine lL hs [.m 2 32] (lNS (lL hs [.m 33 2] (lV 34 (iV (min ((min (sum:Int) (1073741824:Int))*n:Int) (1073741824:Int))) ?_ (hr:=rint (n:=(if (1073741824:Int)<((min (sum:Int) (1073741824:Int))*n:Int) then (1073741824:Int) else ((min (sum:Int) (1073741824:Int))*n:Int))) kR (by simp only[imin2])))));exact lL hs [.m 6 34] (lN (kX (hs.ret [] (iV (min ((min (sum:Int) (1073741824:Int))*n:Int) (1073741824:Int))) (congrArg (Value.int .i64) (by unfold weighS;first|(rw[if_pos oM];omega)|(rw[if_neg oM,if_pos oM,if_pos oM];rw[hmn] at *;omega)|(rw[if_neg oM,if_pos oM,if_neg oM];rw[hmn] at *;omega)|(rw[if_neg oM,if_neg oM];omega))))))
   have phb6:=oT hb6;refine lB 27 hb6 (lL hs [.v 28 qT] (lN (cIT (kQ (lL hs [.v 1 (iV 1073741824)] (lN (kQ (lL hs [.m 29 2] (lV 30 (iV (min (sum:Int) (1073741824:Int))) ?_ (hr:=rint (n:=(if (1073741824:Int)<(sum:Int) then (1073741824:Int) else (sum:Int))) kR (by simp only[imin2])))))))))));refine lL hs [.m 31 1] (lI 32 ((min (sum:Int) (1073741824:Int))*1073741824) ?_);refine lL hs [.m 2 32] (lNS (lL hs [.m 33 2] (lV 34 (iV (min ((min (sum:Int) (1073741824:Int))*1073741824:Int) (1073741824:Int))) ?_ (hr:=rint (n:=(if (1073741824:Int)<((min (sum:Int) (1073741824:Int))*1073741824:Int) then (1073741824:Int) else ((min (sum:Int) (1073741824:Int))*1073741824:Int))) kR (by simp only[imin2])))));exact lL hs [.m 6 34] (lN (kX (hs.ret [] (iV (min ((min (sum:Int) (1073741824:Int))*1073741824:Int) (1073741824:Int))) (congrArg (Value.int .i64) (by unfold weighS;first|(rw[if_pos oM];omega)|(rw[if_neg oM,if_pos oM,if_pos oM];rw[hmn] at *;omega)|(rw[if_neg oM,if_pos oM,if_neg oM];rw[hmn] at *;omega)|(rw[if_neg oM,if_neg oM];omega))))))
  have phb4:=oT hb4;refine lB 20 hb4 (lN (cIT (kQ (lL hs [.m 21 1] (lI 22 (0-n) ?_)))));refine lL hs [.m 1 22] (lN (cQ (cSL (lL hs [.m 23 1] ?_))));cases hb7:(decide ((0-n:Int)<(0:Int)))
  ·
   have phb7:=oF hb7;refine lB 24 hb7 (lL hs [.m 25 24,.m 26 1] ?_);cases hb8:(decide ((1073741824:Int)<(0-n:Int)))
   ·
    have phb8:=oF hb8;refine lB 27 hb8 (lL hs [.v 28 qF] (lN (cIF (cK (kQ (lL hs [.m 29 2] (lV 30 (iV (min (sum:Int) (1073741824:Int))) ?_ (hr:=rint (n:=(if (1073741824:Int)<(sum:Int) then (1073741824:Int) else (sum:Int))) kR (by simp only[imin2])))))))));refine lL hs [.m 31 1] (lI 32 ((min (sum:Int) (1073741824:Int))*(0-n)) ?_);refine lL hs [.m 2 32] (lNS (lL hs [.m 33 2] (lV 34 (iV (min ((min (sum:Int) (1073741824:Int))*(0-n):Int) (1073741824:Int))) ?_ (hr:=rint (n:=(if (1073741824:Int)<((min (sum:Int) (1073741824:Int))*(0-n):Int) then (1073741824:Int) else ((min (sum:Int) (1073741824:Int))*(0-n):Int))) kR (by simp only[imin2])))));exact lL hs [.m 6 34] (lN (kX (hs.ret [] (iV (min ((min (sum:Int) (1073741824:Int))*(0-n):Int) (1073741824:Int))) (congrArg (Value.int .i64) (by unfold weighS;first|(rw[if_pos oM];omega)|(rw[if_neg oM,if_pos oM,if_pos oM];rw[hmn] at *;omega)|(rw[if_neg oM,if_pos oM,if_neg oM];rw[hmn] at *;omega)|(rw[if_neg oM,if_neg oM];omega))))))
   have phb8:=oT hb8;refine lB 27 hb8 (lL hs [.v 28 qT] (lN (cIT (kQ (lL hs [.v 1 (iV 1073741824)] (lN (kQ (lL hs [.m 29 2] (lV 30 (iV (min (sum:Int) (1073741824:Int))) ?_ (hr:=rint (n:=(if (1073741824:Int)<(sum:Int) then (1073741824:Int) else (sum:Int))) kR (by simp only[imin2])))))))))));refine lL hs [.m 31 1] (lI 32 ((min (sum:Int) (1073741824:Int))*1073741824) ?_);refine lL hs [.m 2 32] (lNS (lL hs [.m 33 2] (lV 34 (iV (min ((min (sum:Int) (1073741824:Int))*1073741824:Int) (1073741824:Int))) ?_ (hr:=rint (n:=(if (1073741824:Int)<((min (sum:Int) (1073741824:Int))*1073741824:Int) then (1073741824:Int) else ((min (sum:Int) (1073741824:Int))*1073741824:Int))) kR (by simp only[imin2])))));exact lL hs [.m 6 34] (lN (kX (hs.ret [] (iV (min ((min (sum:Int) (1073741824:Int))*1073741824:Int) (1073741824:Int))) (congrArg (Value.int .i64) (by unfold weighS;first|(rw[if_pos oM];omega)|(rw[if_neg oM,if_pos oM,if_pos oM];rw[hmn] at *;omega)|(rw[if_neg oM,if_pos oM,if_neg oM];rw[hmn] at *;omega)|(rw[if_neg oM,if_neg oM];omega))))))
  have phb7:=oT hb7;refine lB 24 hb7 (lL hs [.m 25 24] (lG 26 ?_));refine lG 27 (lL hs [.v 28 qT] (lN (cIT (kQ (lL hs [.v 1 (iV 1073741824)] (lN (kQ (lL hs [.m 29 2] (lV 30 (iV (min (sum:Int) (1073741824:Int))) ?_ (hr:=rint (n:=(if (1073741824:Int)<(sum:Int) then (1073741824:Int) else (sum:Int))) kR (by simp only[imin2])))))))))));refine lL hs [.m 31 1] (lI 32 ((min (sum:Int) (1073741824:Int))*1073741824) ?_);refine lL hs [.m 2 32] (lNS (lL hs [.m 33 2] (lV 34 (iV (min ((min (sum:Int) (1073741824:Int))*1073741824:Int) (1073741824:Int))) ?_ (hr:=rint (n:=(if (1073741824:Int)<((min (sum:Int) (1073741824:Int))*1073741824:Int) then (1073741824:Int) else ((min (sum:Int) (1073741824:Int))*1073741824:Int))) kR (by simp only[imin2])))));exact lL hs [.m 6 34] (lN (kX (hs.ret [] (iV (min ((min (sum:Int) (1073741824:Int))*1073741824:Int) (1073741824:Int))) (congrArg (Value.int .i64) (by unfold weighS;first|(rw[if_pos oM];omega)|(rw[if_neg oM,if_pos oM,if_pos oM];rw[hmn] at *;omega)|(rw[if_neg oM,if_pos oM,if_neg oM];rw[hmn] at *;omega)|(rw[if_neg oM,if_neg oM];omega))))))
 have phb1:=eq_of_beq hb1;refine lB 9 hb1 (lL hs [.m 7 9] (lN (cIT (kQ (lL hs [.m 10 2] (lI 11 (2*sum) ?_))))));refine lL hs [.m 2 11] (lNS (lL hs [.m 33 2] (lV 34 (iV (min (2*sum:Int) (1073741824:Int))) ?_ (hr:=rint (n:=(if (1073741824:Int)<(2*sum:Int) then (1073741824:Int) else (2*sum:Int))) kR (by simp only[imin2])))));exact lL hs [.m 6 34] (lN (kX (hs.ret [] (iV (min (2*sum:Int) (1073741824:Int))) (congrArg (Value.int .i64) (by unfold weighS;first|(rw[if_pos oM];omega)|(rw[if_neg oM,if_pos oM,if_pos oM];rw[hmn] at *;omega)|(rw[if_neg oM,if_pos oM,if_neg oM];rw[hmn] at *;omega)|(rw[if_neg oM,if_neg oM];omega))))))
theorem rRight (inp:Int)(A:Option Addr)(c:Nat)(ts:List RSt)(ss:List OSt)(O:Option Addr)(d:Nat)(os:List Int)(i:Nat)(hik:i<ss.length)(hl:ss.length≤1000000)(w:World)(h:Hp)(g:G w h)(hA:SlO 7 rsc rst0 h A ts)(hT:RSs h ts ss)(hO:Si O os h):CV 101 #[.agg #[iV inp,.slice A ts.length c,.slice O os.length d],nV i] w h (.bool (decide (Formed inp i (ss.getD i ost0).stp))):=by
 have hs:=((((sS g).aS hA).add (K:=fun h_=>RSs h_ ts ss) hT).aS hO);have hlt:=(hs.f.2.1).len;have hz:=((hs.f.2.1).at_ i hik).z
 have hzq:(odn (ss.getD i ost0)=0∨(ss.getD i ost0).q.num=0)↔(ss.getD i ost0).q.num=0:=or_iff_right_of_imp (fun h_=>by
     have:(ss.getD i ost0).has=false:=by
       have h2:=odn_pos (o:=(ss.getD i ost0));rw[h_,lim_zero] at h2;cases h3:(ss.getD i ost0).has;rfl;rw[h3] at h2;simp at h2
     rw[hz this];rfl)
 refine go Tryz.func101 [(0,.agg #[iV inp,qS A ts.length c,qS O os.length d]),(1,nV i)] rfl (cSL (lA 2 25 ([iV inp,qS A ts.length c,qS O os.length d]) hs (fun b1 w2 h3 hs=>lL hs [.v 4 qF] (lNS (lL hs [.v 7 (qP b1 1),.o 8 (qS A ts.length c) 0 1 1,.m 9 1] (lX 10 A ts.length c 7 (i:Nat) i ((hs.f.r.1).ok oM) ?_))))));obtain ⟨Aqx,cqx,Dqx,dqx,eqx,hcqx,hdqx,hAqx,hDqx⟩:=((hs.f.2.1).at_ i oM).opn;replace hs:=hs.aP hAqx hDqx;refine lHe 11 (.agg #[iV ((ts.getD i rst0).op),iV ((ts.getD i rst0).a),iV ((ts.getD i rst0).b),iV ((ts.getD i rst0).n),.bool ((ts.getD i rst0).t.1),(ts.getD i rst0).t.2.1,(ts.getD i rst0).t.2.2]) hs ((hs.f.q.1).el i oM) eqx (lA 5 99 ([iV 0,iV 0,iV 0,iV 0,qF,sZ,sZ]) hs (fun b4 w5 h6 hs=>lP 0 0 ([iV ((ss.getD i ost0).op),iV ((ss.getD i ost0).a),iV ((ss.getD i ost0).b),iV ((ss.getD i ost0).n),.bool (ineg (ss.getD i ost0).q.num),qS Aqx ((lim (iabs (ss.getD i ost0).q.num)).length) cqx,qS Dqx ((lim (odn (ss.getD i ost0))).length) dqx]) hs (fun w7 hs=>lNS (lL hs [.v 12 (pB b4),.o 13 (iV ((ss.getD i ost0).op)) 0 0 1] (lC 14 hs (rKids (ss.getD i ost0).op _ _ hs.g) ?_)))));rintro _ w8 h9 hs rfl;have hac:=ari_cases (ss.getD i ost0).op;refine lL hs [.m 6 14] (lN (cQ (kZ (CG.join (fun Γ w_=>∃ (zF:Bool) (h_:Hp),Γ=[(1,nV i),(2,pB b1),(4,qF),(5,pB b4),(6,iV (ari (ss.getD i ost0).op)),(15,.bool zF)]∧SS w h w_ h_ [⟨b4,99,[iV ((ss.getD i ost0).op),iV ((ss.getD i ost0).a),iV ((ss.getD i ost0).b),iV ((ss.getD i ost0).n),.bool (ineg (ss.getD i ost0).q.num),qS Aqx ((lim (iabs (ss.getD i ost0).q.num)).length) cqx,qS Dqx ((lim (odn (ss.getD i ost0))).length) dqx]⟩,⟨b1,25,[iV inp,qS A ts.length c,qS O os.length d]⟩] [] [S3 Dqx (lim (odn (ss.getD i ost0))),S3 Aqx (lim (iabs (ss.getD i ost0).q.num)),Si O os,fun h_=>RSs h_ ts ss,fun h_=>SlO 7 rsc rst0 h_ A ts]∧(zF=true→¬(0≤ari (ss.getD i ost0).op∧((ss.getD i ost0).op=1∨(ss.getD i ost0).q.num=0)∧((ss.getD i ost0).op=8∨(ss.getD i ost0).op=2∨(ss.getD i ost0).n=0)))∧(zF=false→(0≤ari (ss.getD i ost0).op∧((ss.getD i ost0).op=1∨(ss.getD i ost0).q.num=0)∧((ss.getD i ost0).op=8∨(ss.getD i ost0).op=2∨(ss.getD i ost0).n=0)))) ?_ ?_))))
 ·
  refine kQ (lL hs [.m 16 6] ?_);cases zc:(decide ((ari (ss.getD i ost0).op:Int)<(0:Int)))
  ·
   have zP:=oF zc;refine lB 17 zc (lL hs [.m 18 17,.v 19 (pB b4),.o 20 (iV ((ss.getD i ost0).op)) 0 0 1] ?_);cases zd:(((ss.getD i ost0).op:Int) != (1:Int))
   ·
    have zQ:=eqOfBne zd;refine lB 21 zd (lL hs [.m 22 21] (lG 23 ?_));refine lG 24 (lG 25 (lG 26 (lL hs [.v 27 qF,.v 28 qF,.m 29 28,.v 30 (pB b4),.o 31 (iV ((ss.getD i ost0).op)) 0 0 1] ?_)));have zJ:(((ss.getD i ost0).op:Int) != (8:Int))=true:=bneT oM;have phb12:=neOfBne zJ;refine lB 32 zJ (lL hs [.m 33 32,.v 34 (pB b4),.o 35 (iV ((ss.getD i ost0).op)) 0 0 1] ?_);have zK:(((ss.getD i ost0).op:Int) != (2:Int))=true:=bneT oM;have phb13:=neOfBne zK;refine lB 36 zK (lL hs [.v 37 qT,.m 38 37,.v 39 (qP b4 3),.o 40 (iV ((ss.getD i ost0).n)) 0 3 1] ?_);cases ze:(((ss.getD i ost0).n:Int) != (0:Int))
    ·
     have zR:=eqOfBne ze;refine lB 41 ze (lL hs [.v 42 qF,.v 43 qF,.m 15 43] (lD ?_));intro a_ ka;exact ⟨_,⟨false,h9,rfl,hs.to _ _,(fun h_=>absurd h_ kD),(fun _=>by omega)⟩,ka.to _ kR⟩
    have zR:=neOfBne ze;refine lB 41 ze (lL hs [.v 42 qT,.v 43 qT,.m 15 43] (lD ?_));intro a_ ka;exact ⟨_,⟨true,h9,rfl,hs.to _ _,(fun _=>by omega),(fun h_=>absurd h_ kD)⟩,ka.to _ kR⟩
   have zQ:=neOfBne zd;refine lB 21 zd (lL hs [.m 22 21,.v 23 (qP b4 4),.o 24 (.agg #[.bool (ineg (ss.getD i ost0).q.num),qS Aqx ((lim (iabs (ss.getD i ost0).q.num)).length) cqx,qS Dqx ((lim (odn (ss.getD i ost0))).length) dqx]) 0 4 3] (lC 25 hs (rZero (ss.getD i ost0).q.num Aqx cqx (odn (ss.getD i ost0)) Dqx dqx hcqx hdqx _ _ hs.g hs.f.2.1 hs.f.1) ?_));rintro _ _ zG hs rfl;cases zL:(decide (odn (ss.getD i ost0)=0∨(ss.getD i ost0).q.num=0))
   ·
    have zS:=oF zL;refine lL hs [.v 26 qT,.v 27 qT,.v 28 qT,.m 29 28] (lG 30 ?_);refine lG 31 (lG 32 (lG 33 (lG 34 (lG 35 (lG 36 (lG 37 (lG 38 (lG 39 (lG 40 (lG 41 (lG 42 (lL hs [.v 43 qT,.m 15 43] (lD ?_)))))))))))));intro a_ ka;exact ⟨_,⟨true,zG,rfl,hs.to _ _,(fun _=>by omega),(fun h_=>absurd h_ kD)⟩,ka.to _ kR⟩
   have zS:=oT zL;refine lL hs [.v 26 qF,.v 27 qF,.v 28 qF,.m 29 28,.v 30 (pB b4),.o 31 (iV ((ss.getD i ost0).op)) 0 0 1] ?_;cases zf:(((ss.getD i ost0).op:Int) != (8:Int))
   ·
    have zT:=eqOfBne zf;refine lB 32 zf (lL hs [.m 33 32] (lG 34 ?_));refine lG 35 (lG 36 (lL hs [.v 37 qF,.m 38 37] (lG 39 ?_)));refine lG 40 (lG 41 (lL hs [.v 42 qF,.v 43 qF,.m 15 43] (lD ?_)));intro a_ ka;exact ⟨_,⟨false,zG,rfl,hs.to _ _,(fun h_=>absurd h_ kD),(fun _=>by omega)⟩,ka.to _ kR⟩
   have zT:=neOfBne zf;refine lB 32 zf (lL hs [.m 33 32,.v 34 (pB b4),.o 35 (iV ((ss.getD i ost0).op)) 0 0 1] ?_);cases zg:(((ss.getD i ost0).op:Int) != (2:Int))
   ·
    have zU:=eqOfBne zg;refine lB 36 zg (lL hs [.v 37 qF,.m 38 37] (lG 39 ?_));refine lG 40 (lG 41 (lL hs [.v 42 qF,.v 43 qF,.m 15 43] (lD ?_)));intro a_ ka;exact ⟨_,⟨false,zG,rfl,hs.to _ _,(fun h_=>absurd h_ kD),(fun _=>by omega)⟩,ka.to _ kR⟩
   have zU:=neOfBne zg;refine lB 36 zg (lL hs [.v 37 qT,.m 38 37,.v 39 (qP b4 3),.o 40 (iV ((ss.getD i ost0).n)) 0 3 1] ?_);cases zi:(((ss.getD i ost0).n:Int) != (0:Int))
   ·
    have zW:=eqOfBne zi;refine lB 41 zi (lL hs [.v 42 qF,.v 43 qF,.m 15 43] (lD ?_));intro a_ ka;exact ⟨_,⟨false,zG,rfl,hs.to _ _,(fun h_=>absurd h_ kD),(fun _=>by omega)⟩,ka.to _ kR⟩
   have zW:=neOfBne zi;refine lB 41 zi (lL hs [.v 42 qT,.v 43 qT,.m 15 43] (lD ?_));intro a_ ka;exact ⟨_,⟨true,zG,rfl,hs.to _ _,(fun _=>by omega),(fun h_=>absurd h_ kD)⟩,ka.to _ kR⟩
  have zP:=oT zc;refine lB 17 zc (lL hs [.m 18 17] (lG 19 ?_));refine lG 20 (lG 21 (lG 22 (lG 23 (lG 24 (lG 25 (lG 26 (lG 27 (lL hs [.v 28 qT,.m 29 28] (lG 30 ?_)))))))));refine lG 31 (lG 32 (lG 33 (lG 34 (lG 35 (lG 36 (lG 37 (lG 38 (lG 39 (lG 40 (lG 41 (lG 42 (lL hs [.v 43 qT,.m 15 43] (lD ?_)))))))))))));intro a_ ka;exact ⟨_,⟨true,h9,rfl,hs.to _ _,(fun _=>by omega),(fun h_=>absurd h_ kD)⟩,ka.to _ kR⟩
 rintro _ _ ⟨zF,za,rfl,hs,yq,hF15⟩;cases zj:(zF)
 ·
  try rw[zj] at hs
  try rw[zj]
  refine cIF ?_;have yv:=hF15 aM;refine CG.join (fun Γ w_=>∃ (zH:Bool) (h_:Hp),Γ=[(1,nV i),(4,qF),(5,pB b4),(6,iV (ari (ss.getD i ost0).op)),(44,.bool zH)]∧SS w h w_ h_ [⟨b4,99,[iV ((ss.getD i ost0).op),iV ((ss.getD i ost0).a),iV ((ss.getD i ost0).b),iV ((ss.getD i ost0).n),.bool (ineg (ss.getD i ost0).q.num),qS Aqx ((lim (iabs (ss.getD i ost0).q.num)).length) cqx,qS Dqx ((lim (odn (ss.getD i ost0))).length) dqx]⟩,⟨b1,25,[iV inp,qS A ts.length c,qS O os.length d]⟩] [] [S3 Dqx (lim (odn (ss.getD i ost0))),S3 Aqx (lim (iabs (ss.getD i ost0).q.num)),Si O os,fun h_=>RSs h_ ts ss,fun h_=>SlO 7 rsc rst0 h_ A ts]∧(zH=true→¬(((ss.getD i ost0).op=2→0≤(ss.getD i ost0).n∧(ss.getD i ost0).n<inp)∧((ss.getD i ost0).op=8 → -12≤(ss.getD i ost0).n∧(ss.getD i ost0).n≤12)))∧(zH=false→(((ss.getD i ost0).op=2→0≤(ss.getD i ost0).n∧(ss.getD i ost0).n<inp)∧((ss.getD i ost0).op=8 → -12≤(ss.getD i ost0).n∧(ss.getD i ost0).n≤12)))) ?_ ?_
  ·
   refine kQ (lL hs [.v 45 (pB b4),.o 46 (iV ((ss.getD i ost0).op)) 0 0 1] ?_);cases zk:(((ss.getD i ost0).op:Int) == (2:Int))
   ·
    have zX:=neOfBeq zk;refine lB 47 zk (lL hs [.m 48 47] (lG 49 ?_));refine lG 50 (lG 51 (lG 52 (lG 53 (lG 54 (lG 55 (lG 56 (lG 57 (lG 58 (lL hs [.v 59 qF,.m 60 59,.v 61 (pB b4),.o 62 (iV ((ss.getD i ost0).op)) 0 0 1] ?_)))))))));cases zl:(((ss.getD i ost0).op:Int) == (8:Int))
    ·
     have ya:=neOfBeq zl;refine lB 63 zl (lL hs [.m 64 63] (lG 65 ?_));refine lG 66 (lG 67 (lG 68 (lG 69 (lG 70 (lG 71 (lG 72 (lL hs [.v 73 qF,.v 74 qF,.m 44 74] (lD ?_))))))));intro a_ ka;exact ⟨_,⟨false,za,rfl,hs.to _ _,(fun h_=>absurd h_ kD),(fun _=>by omega)⟩,ka.to _ kR⟩
    have ya:=eq_of_beq zl;refine lB 63 zl (lL hs [.m 64 63,.v 65 (qP b4 3),.o 66 (iV ((ss.getD i ost0).n)) 0 3 1] ?_);cases zm:(decide (((ss.getD i ost0).n:Int)<(-12:Int)))
    ·
     have yb:=oF zm;refine lB 67 zm (lL hs [.m 68 67,.v 69 (qP b4 3),.o 70 (iV ((ss.getD i ost0).n)) 0 3 1] ?_);cases zn:(decide ((12:Int)<((ss.getD i ost0).n:Int)))
     ·
      have yc:=oF zn;refine lB 71 zn (lL hs [.v 72 qF,.v 73 qF,.v 74 qF,.m 44 74] (lD ?_));intro a_ ka;exact ⟨_,⟨false,za,rfl,hs.to _ _,(fun h_=>absurd h_ kD),(fun _=>by omega)⟩,ka.to _ kR⟩
     have yc:=oT zn;refine lB 71 zn (lL hs [.v 72 qT,.v 73 qT,.v 74 qT,.m 44 74] (lD ?_));intro a_ ka;exact ⟨_,⟨true,za,rfl,hs.to _ _,(fun _=>by omega),(fun h_=>absurd h_ kD)⟩,ka.to _ kR⟩
    have yb:=oT zm;refine lB 67 zm (lL hs [.m 68 67] (lG 69 ?_));refine lG 70 (lG 71 (lL hs [.v 72 qT,.v 73 qT,.v 74 qT,.m 44 74] (lD ?_)));intro a_ ka;exact ⟨_,⟨true,za,rfl,hs.to _ _,(fun _=>by omega),(fun h_=>absurd h_ kD)⟩,ka.to _ kR⟩
   have zX:=eq_of_beq zk;refine lB 47 zk (lL hs [.m 48 47,.v 49 (qP b4 3),.o 50 (iV ((ss.getD i ost0).n)) 0 3 1] ?_);cases zo:(decide (((ss.getD i ost0).n:Int)<(0:Int)))
   ·
    have yd:=oF zo;refine lB 51 zo (lL hs [.m 52 51,.v 53 (qP b4 3),.o 54 (iV ((ss.getD i ost0).n)) 0 3 1,.v 55 (pB b1),.o 56 (iV inp) 1 0 1] ?_);cases zp:(decide ((inp:Int)≤((ss.getD i ost0).n:Int)))
    ·
     have ye:=oF zp;refine lB 57 zp (lL hs [.v 58 qF,.v 59 qF,.m 60 59,.v 61 (pB b4),.o 62 (iV ((ss.getD i ost0).op)) 0 0 1] ?_);have zM:(((ss.getD i ost0).op:Int) == (8:Int))=false:=beqF oM;have phb54:=neOfBeq zM;refine lB 63 zM (lL hs [.m 64 63] (lG 65 ?_));refine lG 66 (lG 67 (lG 68 (lG 69 (lG 70 (lG 71 (lG 72 (lL hs [.v 73 qF,.v 74 qF,.m 44 74] (lD ?_))))))));intro a_ ka;exact ⟨_,⟨false,za,rfl,hs.to _ _,(fun h_=>absurd h_ kD),(fun _=>by omega)⟩,ka.to _ kR⟩
    have ye:=oT zp;refine lB 57 zp (lL hs [.v 58 qT,.v 59 qT,.m 60 59] (lG 61 ?_));refine lG 62 (lG 63 (lG 64 (lG 65 (lG 66 (lG 67 (lG 68 (lG 69 (lG 70 (lG 71 (lG 72 (lG 73 (lL hs [.v 74 qT,.m 44 74] (lD ?_)))))))))))));intro a_ ka;exact ⟨_,⟨true,za,rfl,hs.to _ _,(fun _=>by omega),(fun h_=>absurd h_ kD)⟩,ka.to _ kR⟩
   have yd:=oT zo;refine lB 51 zo (lL hs [.m 52 51] (lG 53 ?_));refine lG 54 (lG 55 (lG 56 (lG 57 (lL hs [.v 58 qT,.v 59 qT,.m 60 59] (lG 61 ?_)))));refine lG 62 (lG 63 (lG 64 (lG 65 (lG 66 (lG 67 (lG 68 (lG 69 (lG 70 (lG 71 (lG 72 (lG 73 (lL hs [.v 74 qT,.m 44 74] (lD ?_)))))))))))));intro a_ ka;exact ⟨_,⟨true,za,rfl,hs.to _ _,(fun _=>by omega),(fun h_=>absurd h_ kD)⟩,ka.to _ kR⟩
  rintro _ _ ⟨zH,zb,rfl,hs,yr,hF44⟩;cases zq:(zH)
  ·
   try rw[zq] at hs
   try rw[zq]
   refine cIF ?_;have yw:=hF44 aM;refine CG.join (fun Γ w_=>∃ (zI:Bool) (h_:Hp),Γ=[(1,nV i),(4,qF),(5,pB b4),(6,iV (ari (ss.getD i ost0).op)),(75,.bool zI)]∧SS w h w_ h_ [⟨b4,99,[iV ((ss.getD i ost0).op),iV ((ss.getD i ost0).a),iV ((ss.getD i ost0).b),iV ((ss.getD i ost0).n),.bool (ineg (ss.getD i ost0).q.num),qS Aqx ((lim (iabs (ss.getD i ost0).q.num)).length) cqx,qS Dqx ((lim (odn (ss.getD i ost0))).length) dqx]⟩,⟨b1,25,[iV inp,qS A ts.length c,qS O os.length d]⟩] [] [S3 Dqx (lim (odn (ss.getD i ost0))),S3 Aqx (lim (iabs (ss.getD i ost0).q.num)),Si O os,fun h_=>RSs h_ ts ss,fun h_=>SlO 7 rsc rst0 h_ A ts]∧(zI=true→¬((0<ari (ss.getD i ost0).op→0≤(ss.getD i ost0).a∧(ss.getD i ost0).a<i)∧(ari (ss.getD i ost0).op=0→(ss.getD i ost0).a=0)))∧(zI=false→((0<ari (ss.getD i ost0).op→0≤(ss.getD i ost0).a∧(ss.getD i ost0).a<i)∧(ari (ss.getD i ost0).op=0→(ss.getD i ost0).a=0)))) ?_ ?_
   ·
    refine kQ (lL hs [.m 76 6] ?_);cases zr:(decide ((0:Int)<(ari (ss.getD i ost0).op:Int)))
    ·
     have yf:=oF zr;refine lB 77 zr (lL hs [.m 78 77] (lG 79 ?_));refine lG 80 (lG 81 (lG 82 (lG 83 (lG 84 (lG 85 (lG 86 (lG 87 (lL hs [.v 88 qF,.m 89 88,.m 90 6] ?_))))))));cases zs:((ari (ss.getD i ost0).op:Int) == (0:Int))
     ·
      have yg:=neOfBeq zs;refine lB 91 zs (lL hs [.m 92 91] (lG 93 ?_));refine lG 94 (lG 95 (lL hs [.v 96 qF,.v 97 qF,.m 75 97] (lD ?_)));intro a_ ka;exact ⟨_,⟨false,zb,rfl,hs.to _ _,(fun h_=>absurd h_ kD),(fun _=>by omega)⟩,ka.to _ kR⟩
     have yg:=eq_of_beq zs;refine lB 91 zs (lL hs [.m 92 91,.v 93 (qP b4 1),.o 94 (iV ((ss.getD i ost0).a)) 0 1 1] ?_);cases zt:(((ss.getD i ost0).a:Int) != (0:Int))
     ·
      have yi:=eqOfBne zt;refine lB 95 zt (lL hs [.v 96 qF,.v 97 qF,.m 75 97] (lD ?_));intro a_ ka;exact ⟨_,⟨false,zb,rfl,hs.to _ _,(fun h_=>absurd h_ kD),(fun _=>by omega)⟩,ka.to _ kR⟩
     have yi:=neOfBne zt;refine lB 95 zt (lL hs [.v 96 qT,.v 97 qT,.m 75 97] (lD ?_));intro a_ ka;exact ⟨_,⟨true,zb,rfl,hs.to _ _,(fun _=>by omega),(fun h_=>absurd h_ kD)⟩,ka.to _ kR⟩
    have yf:=oT zr;refine lB 77 zr (lL hs [.m 78 77,.v 79 (qP b4 1),.o 80 (iV ((ss.getD i ost0).a)) 0 1 1] ?_);cases zu:(decide (((ss.getD i ost0).a:Int)<(0:Int)))
    ·
     have yj:=oF zu;refine lB 81 zu (lL hs [.m 82 81,.v 83 (qP b4 1),.o 84 (iV ((ss.getD i ost0).a)) 0 1 1,.m 85 1] ?_);cases zv:(decide ((i:Int)≤((ss.getD i ost0).a:Int)))
     ·
      have yk:=oF zv;refine lB 86 zv (lL hs [.v 87 qF,.v 88 qF,.m 89 88,.m 90 6] ?_);have zN:((ari (ss.getD i ost0).op:Int) == (0:Int))=false:=beqF oM;have phb75:=neOfBeq zN;refine lB 91 zN (lL hs [.m 92 91] (lG 93 ?_));refine lG 94 (lG 95 (lL hs [.v 96 qF,.v 97 qF,.m 75 97] (lD ?_)));intro a_ ka;exact ⟨_,⟨false,zb,rfl,hs.to _ _,(fun h_=>absurd h_ kD),(fun _=>by omega)⟩,ka.to _ kR⟩
     have yk:=oT zv;refine lB 86 zv (lL hs [.v 87 qT,.v 88 qT,.m 89 88] (lG 90 ?_));refine lG 91 (lG 92 (lG 93 (lG 94 (lG 95 (lG 96 (lL hs [.v 97 qT,.m 75 97] (lD ?_)))))));intro a_ ka;exact ⟨_,⟨true,zb,rfl,hs.to _ _,(fun _=>by omega),(fun h_=>absurd h_ kD)⟩,ka.to _ kR⟩
    have yj:=oT zu;refine lB 81 zu (lL hs [.m 82 81] (lG 83 ?_));refine lG 84 (lG 85 (lG 86 (lL hs [.v 87 qT,.v 88 qT,.m 89 88] (lG 90 ?_))));refine lG 91 (lG 92 (lG 93 (lG 94 (lG 95 (lG 96 (lL hs [.v 97 qT,.m 75 97] (lD ?_)))))));intro a_ ka;exact ⟨_,⟨true,zb,rfl,hs.to _ _,(fun _=>by omega),(fun h_=>absurd h_ kD)⟩,ka.to _ kR⟩
   rintro _ _ ⟨zI,_,rfl,hs,ys,hF75⟩;cases zw:(zI)
   ·
    try rw[zw] at hs
    try rw[zw]
    refine cIF (cK (cSL ?_));have yx:=hF75 aM;refine lL hs [.m 98 6] ?_;cases zx:((ari (ss.getD i ost0).op:Int) == (2:Int))
    ·
     have yl:=neOfBeq zx;refine lB 99 zx (lL hs [.m 100 99] (lG 101 ?_));refine lG 102 (lG 103 (lL hs [.v 104 qF,.m 105 104] (lG 106 ?_)));refine lG 107 (lG 108 (lG 109 (lL hs [.v 110 qF,.m 111 110,.m 112 6] ?_)));cases zA:(decide ((ari (ss.getD i ost0).op:Int)<(2:Int)))
     ·
      have ym:=oF zA;refine lB 113 zA (lL hs [.m 114 113] (lG 115 ?_));exact lG 116 (lG 117 (lL hs [.v 118 qF,.v 119 qF,.m 4 119] (lN (kX (hs.ret [] qF (congrArg Value.bool (decide_eq_false (by dsimp only[Formed,Refers,OSt.stp];omega)).symm))))))
     have ym:=oT zA;refine lB 113 zA (lL hs [.m 114 113,.v 115 (qP b4 2),.o 116 (iV ((ss.getD i ost0).b)) 0 2 1] ?_);cases zB:(((ss.getD i ost0).b:Int) == (0:Int))
     ·
      have yn:=neOfBeq zB;exact lB 117 zB (lL hs [.v 118 qF,.v 119 qF,.m 4 119] (lN (kX (hs.ret [] qF (congrArg Value.bool (decide_eq_false (by dsimp only[Formed,Refers,OSt.stp];omega)).symm)))))
     have yn:=eq_of_beq zB;exact lB 117 zB (lL hs [.v 118 qT,.v 119 qT,.m 4 119] (lN (kX (hs.ret [] qT (congrArg Value.bool (decide_eq_true (by dsimp only[Formed,Refers,OSt.stp];omega)).symm)))))
    have yl:=eq_of_beq zx;refine lB 99 zx (lL hs [.m 100 99,.v 101 (qP b4 2),.o 102 (iV ((ss.getD i ost0).b)) 0 2 1] ?_);cases zD:(decide ((0:Int)≤((ss.getD i ost0).b:Int)))
    ·
     have yo:=oF zD;refine lB 103 zD (lL hs [.v 104 qF,.m 105 104] (lG 106 ?_));refine lG 107 (lG 108 (lG 109 (lL hs [.v 110 qF,.m 111 110,.m 112 6] ?_)));have ⟨yt,phb89⟩:=dF (p:=(ari (ss.getD i ost0).op:Int)<(2:Int)) oM;refine lB 113 yt (lL hs [.m 114 113] (lG 115 ?_));exact lG 116 (lG 117 (lL hs [.v 118 qF,.v 119 qF,.m 4 119] (lN (kX (hs.ret [] qF (congrArg Value.bool (decide_eq_false (by dsimp only[Formed,Refers,OSt.stp];omega)).symm))))))
    have yo:=oT zD;refine lB 103 zD (lL hs [.v 104 qT,.m 105 104,.v 106 (qP b4 2),.o 107 (iV ((ss.getD i ost0).b)) 0 2 1,.m 108 1] ?_);cases zE:(decide (((ss.getD i ost0).b:Int)<(i:Int)))
    ·
     have yp:=oF zE;refine lB 109 zE (lL hs [.v 110 qF,.m 111 110,.m 112 6] ?_);have ⟨yu,phb91⟩:=dF (p:=(ari (ss.getD i ost0).op:Int)<(2:Int)) oM;refine lB 113 yu (lL hs [.m 114 113] (lG 115 ?_));exact lG 116 (lG 117 (lL hs [.v 118 qF,.v 119 qF,.m 4 119] (lN (kX (hs.ret [] qF (congrArg Value.bool (decide_eq_false (by dsimp only[Formed,Refers,OSt.stp];omega)).symm))))))
    have yp:=oT zE;refine lB 109 zE (lL hs [.v 110 qT,.m 111 110] (lG 112 ?_));exact lG 113 (lG 114 (lG 115 (lG 116 (lG 117 (lG 118 (lL hs [.v 119 qT,.m 4 119] (lN (kX (hs.ret [] qT (congrArg Value.bool (decide_eq_true (by dsimp only[Formed,Refers,OSt.stp];omega)).symm))))))))))
   try rw[zw] at hs
   try rw[zw]
   refine cIT (cSL ?_);have yx:=ys aM;exact lL hs [.v 4 qF] (lN (kX (hs.ret [] qF (congrArg Value.bool (decide_eq_false (by dsimp only[Formed,Refers,OSt.stp];omega)).symm))))
  try rw[zq] at hs
  try rw[zq]
  refine cIT (cSL ?_);have yw:=yr aM;exact lL hs [.v 4 qF] (lN (kX (hs.ret [] qF (congrArg Value.bool (decide_eq_false (by dsimp only[Formed,Refers,OSt.stp];omega)).symm))))
 try rw[zj] at hs
 try rw[zj]
 refine cIT (cSL ?_);have yv:=yq aM;exact lL hs [.v 4 qF] (lN (kX (hs.ret [] qF (congrArg Value.bool (decide_eq_false (by dsimp only[Formed,Refers,OSt.stp];omega)).symm))))
theorem rCheckTape (inp:Int)(A:Option Addr)(c:Nat)(ts:List RSt)(ss:List OSt)(O:Option Addr)(d:Nat)(os:List Int)(hl:ss.length≤1000000)(ho:os.length≤1000000)(w:World)(h:Hp)(g:G w h)(hA:SlO 7 rsc rst0 h A ts)(hT:RSs h ts ss)(hO:Si O os h):CV 48 #[.agg #[iV inp,.slice A ts.length c,.slice O os.length d]] w h (iV (chkTp inp (ss.map OSt.stp) os)):=by
 have hs:=((((sS g).aS hA).add (K:=fun h_=>RSs h_ ts ss) hT).aS hO);have hlt:=(hs.f.2.1).len;refine go Tryz.func48 [(0,.agg #[iV inp,qS A ts.length c,qS O os.length d])] rfl (cSL (lA 1 25 ([iV inp,qS A ts.length c,qS O os.length d]) hs (fun b1 w2 h3 hs=>lL hs [.v 2 (iV 0)] (lN (cQ (cSL (lL hs [.v 8 (pB b1),.o 9 (iV inp) 0 0 1] ?_)))))));cases hb4:(decide ((inp:Int)<(0:Int)))
 ·
  have phb4:=oF hb4;refine lB 10 hb4 (lL hs [.m 11 10,.v 12 (pB b1),.o 13 (iV inp) 0 0 1] ?_);cases hb5:(decide ((1000:Int)<(inp:Int)))
  ·
   have phb5:=oF hb5;refine lB 14 hb5 (lL hs [.v 15 qF,.m 16 15,.v 17 (qP b1 1),.o 18 (qS A ts.length c) 0 1 1,.v 19 (nV ts.length)] ?_);cases hb6:(decide ((65536:Int)<(ts.length:Int)))
   ·
    have phb6:=oF hb6;refine lB 20 hb6 (lL hs [.v 21 qF,.m 22 21,.v 23 (qP b1 2),.o 24 (qS O os.length d) 0 2 1,.v 25 (nV os.length)] ?_);cases hb7:(decide ((300:Int)<(os.length:Int)))
    ·
     have phb7:=oF hb7;refine lB 26 hb7 (lL hs [.v 27 qF] (lN (cIF (cK (cSL (lL hs [.v 3 (sZ)] (lN (cQ (cSL (lL hs [.v 4 (iV 0)] (lN (kZ ?_))))))))))));replace hs:=hs.nil 3 1;refine cTo [(1,pB b1),(4,iV 0),(3,sZ)] ?_;have hsh:0≤inp∧inp≤1000∧(ss.map OSt.stp).length≤65536∧os.length≤300:=by rw[List.length_map];omega
     refine CG.loop (fun μ_ Γ w_=>∃ (k:Nat) (waA:Option Addr) (wac:Nat) (L:List Int) (h_:Hp),μ_=ss.length-k∧Γ=[(1,pB b1),(4,nV k),(3,qS waA ((L).length) wac)]∧SS w h w_ h_ [⟨b1,25,[iV inp,qS A ts.length c,qS O os.length d]⟩] [⟨3,1,waA,wac,(L).length,(L).flatMap i64c⟩] [Si O os,fun h_=>RSs h_ ts ss,fun h_=>SlO 7 rsc rst0 h_ A ts]∧k≤ss.length∧L.length=k∧Wts L k∧goS inp (ss.map OSt.stp) []=goS inp ((ss.map OSt.stp).drop k) L) _ ⟨0,none,0,[],h3,rfl,rfl,hs.to _ _,Nat.zero_le _,rfl,fun j hj=>absurd hj (Nat.not_lt_zero j),rfl⟩ ?_;rintro _ _ w8 ⟨k,waA,wac,L,h9,hm10,rfl,hs,hk,hll,hWt,hgo⟩;refine cQ (cSL (lL hs [.m 28 4,.v 29 (qP b1 1),.o 30 (qS A ts.length c) 0 1 1,.v 31 (nV ts.length)] ?_));cases zc:(decide ((k:Int)<(ts.length:Int)))
     ·
      have zo:=oF zc;refine lB 32 zc (lN (cIF (CG.exit ?_)))
      show CG _ _ _ _ _ _ _ _
      refine cQ (cSL (lL hs [.v 7 (iV 0)] (lN (kZ ?_))));refine cTo _ (CG.loop (fun μ_ Γ w_=>∃ (j:Nat) (h_:Hp),μ_=os.length-j∧Γ=[(1,pB b1),(7,nV j)]∧SS w h w_ h_ [⟨b1,25,[iV inp,qS A ts.length c,qS O os.length d]⟩] [⟨3,1,waA,wac,(L).length,(L).flatMap i64c⟩] [Si O os,fun h_=>RSs h_ ts ss,fun h_=>SlO 7 rsc rst0 h_ A ts]∧j≤os.length∧(∀ i,i<j→0≤os.getD i 0∧os.getD i 0<ss.length)) _ ⟨0,h9,rfl,rfl,hs.to _ _,Nat.zero_le _,fun j hj=>absurd hj (Nat.not_lt_zero j)⟩ ?_);rintro _ _ _ ⟨j,_,hm14,rfl,hs,hj,hou⟩;refine cQ (cSL (lL hs [.m 84 7,.v 85 (qP b1 2),.o 86 (qS O os.length d) 0 2 1,.v 87 (nV os.length)] ?_));cases zd:(decide ((j:Int)<(os.length:Int)))
      ·
       have zp:=oF zd;refine lB 88 zd (lN (cIF (CG.exit ?_)))
       show CG _ _ _ _ _ _ _ _
       exact cSL (lL hs [.v 2 (iV 0)] (lN (kX (hs.ret [] (iV 0) (congrArg (Value.int .i64) (chkTp_ok hsh (by rw[hgo,List.drop_eq_nil_of_le (by rw[List.length_map];omega)];rfl) (fun i hi=>by rw[List.length_map];exact hou i oM)).symm)))))
      have zp:=oT zd;refine lB 88 zd (lN (cIT (cK (cQ (kZ (cQ (cR 17 [] mixed hs al_nil ?_)))))));refine eV 0 91 (qP b1 2) (eO 1 92 [(0,2,1)] (qS O os.length d) hs (eV 2 93 (nV j) (eX 3 94 O os.length d 1 (j:Nat) j ((hs.f.1).ok oM) (eH 4 95 (iV (os.getD j 0)) hs ((hs.f.1).el j oM) ?_))));cases ze:(decide ((os.getD j 0:Int)<(0:Int)))
      ·
       have zq:=oF ze;refine eB 5 96 ze (eV 6 97 qF (eV 7 98 (qP b1 2) (eO 8 99 [(0,2,1)] (qS O os.length d) hs (eV 9 100 (nV j) (eX 10 101 O os.length d 1 (j:Nat) j ((hs.f.1).ok oM) (eH 11 102 (iV (os.getD j 0)) hs ((hs.f.1).el j oM) (eV 12 103 (qP b1 1) (eO 13 104 [(0,1,1)] (qS A ts.length c) hs (eV 14 105 (nV ts.length) ?_)))))))));cases zf:(decide ((ts.length:Int)≤(os.getD j 0:Int)))
       ·
        have zr:=oF zf;refine eB 15 106 zf (eV 16 107 qF (eD0 hs (fun _ zD hs=>tN (cIF (cK (kQ (lL hs [.m 89 7] (lIn 90 ((j:Nat)+1) (j+1) ?_))))))));refine lL hs [.m 7 90] (lD ?_);intro a_ ka;refine ⟨_,_,?_,⟨j+1,zD,rfl,rfl,hs.to _ _,oM,(fun i hi=>by by_cases e:i=j;(subst e;omega);exact hou i oM)⟩,ka.to _ kR⟩
        omega
       have zr:=oT zf;exact eB 15 106 zf (eV 16 107 qT (eD0 hs (fun _ _ hs=>tN (cIT (cSL (lL hs [.v 2 (iV 1)] (lN (kX (hs.ret [] (iV 1) (congrArg (Value.int .i64) (chkTp_arg hsh (by rw[hgo,List.drop_eq_nil_of_le (by rw[List.length_map];omega)];rfl) (fun h_=>by have:=h_ j oM;rw[List.length_map] at this;omega)).symm))))))))))
      have zq:=oT ze;exact eB 5 96 ze (eV 6 97 qT (eG 7 98 (eG 8 99 (eG 9 100 (eG 10 101 (eG 11 102 (eG 12 103 (eG 13 104 (eG 14 105 (eG 15 106 (eV 16 107 qT (eD0 hs (fun _ _ hs=>tN (cIT (cSL (lL hs [.v 2 (iV 1)] (lN (kX (hs.ret [] (iV 1) (congrArg (Value.int .i64) (chkTp_arg hsh (by rw[hgo,List.drop_eq_nil_of_le (by rw[List.length_map];omega)];rfl) (fun h_=>by have:=h_ j oM;rw[List.length_map] at this;omega)).symm))))))))))))))))))))
     have zo:=oT zc;refine lB 32 zc (lN (cIT (cK (cQ (kZ (cQ (cSL (lL hs [.o 35 (.agg #[iV inp,qS A ts.length c,qS O os.length d]) 0 0 3,.m 36 4] (lC 37 hs (rRight inp A c ts ss O d os k oM oM _ _ hs.g hs.f.r.1 hs.f.2.1 hs.f.1) ?_)))))))));rintro _ _ _ hs rfl;cases zn:(decide (Formed inp k (ss.getD k ost0).stp))
     ·
      have zs:=oF zn;exact lL hs [.v 38 qT] (lN (cIT (cSL (lL hs [.v 2 (iV 2)] (lN (kX (hs.ret [] (iV 2) (congrArg (Value.int .i64) ((chkTp_go hsh (by rw[hgo,goS_bad (by rw[List.length_map];omega) hll (by rw[stp_getD oM];exact ‹¬Formed inp k (ss.getD k ost0).stp›)];decide)).trans (hgo.trans (goS_bad (by rw[List.length_map];omega) hll (by rw[stp_getD oM];exact ‹¬Formed inp k (ss.getD k ost0).stp›)))).symm))))))))
     have zs:=oT zn;refine lL hs [.v 38 qF] (lN (cIF (cK (cSL (lL hs [.v 39 (qP b1 1),.o 40 (qS A ts.length c) 0 1 1,.m 41 4] (lX 42 A ts.length c 7 (k:Nat) k ((hs.f.r.1).ok oM) ?_))))));obtain ⟨Aqx,cqx,Dqx,dqx,eqx,hcqx,hdqx,hAqx,hDqx⟩:=((hs.f.2.1).at_ k oM).opn;replace hs:=hs.aP hAqx hDqx;refine lHe 43 (.agg #[iV ((ts.getD k rst0).op),iV ((ts.getD k rst0).a),iV ((ts.getD k rst0).b),iV ((ts.getD k rst0).n),.bool ((ts.getD k rst0).t.1),(ts.getD k rst0).t.2.1,(ts.getD k rst0).t.2.2]) hs ((hs.f.q.1).el k oM) eqx (lA 5 99 ([iV 0,iV 0,iV 0,iV 0,qF,sZ,sZ]) hs (fun zb _ _ hs=>lP 0 0 ([iV ((ss.getD k ost0).op),iV ((ss.getD k ost0).a),iV ((ss.getD k ost0).b),iV ((ss.getD k ost0).n),.bool (ineg (ss.getD k ost0).q.num),qS Aqx ((lim (iabs (ss.getD k ost0).q.num)).length) cqx,qS Dqx ((lim (odn (ss.getD k ost0))).length) dqx]) hs (fun _ hs=>lNS (lL hs [.v 6 (iV 1)] (lN (cQ (cSL (lL hs [.v 44 (pB zb),.o 45 (iV ((ss.getD k ost0).op)) 0 0 1] (lC 46 hs (rKids (ss.getD k ost0).op _ _ hs.g) ?_)))))))));rintro _ _ _ hs rfl;have hac:=ari_cases (ss.getD k ost0).op;obtain ⟨f0,f1,f2,f3,f4,f5,f6⟩:=‹Formed inp k (ss.getD k ost0).stp›
     dsimp only[Refers,OSt.stp] at f0 f1 f2 f3 f4 f5 f6
     have hwa:=fun h0=>hWt (ss.getD k ost0).a.toNat h0
     have hwb:=fun h0=>hWt (ss.getD k ost0).b.toNat h0
     have hws:=hWt.weight ‹Formed inp k (ss.getD k ost0).stp›;refine lN (kZ (cSL ?_));cases zg:((ari (ss.getD k ost0).op:Int) == (1:Int))
     ·
      have zt:=neOfBeq zg;refine lB 48 zg (lL hs [.m 47 48] (lN (cIF (cSL ?_))));cases zi:((ari (ss.getD k ost0).op:Int) == (2:Int))
      ·
       have zu:=neOfBeq zi;refine lB 60 zi (lL hs [.m 59 60] (lN (cIF (cK (cQ (cSL ?_))))));have hX37:(1:Int)=weightS (ss.getD k ost0).stp L:=by rw[weigh_o hWt ‹Formed inp k (ss.getD k ost0).stp›];(try unfold weighS);first|(rw[if_pos (show ari (ss.getD k ost0).op=0 by omega)])|(rw[if_neg (show ¬ari (ss.getD k ost0).op=0 by omega),if_neg (show ¬ari (ss.getD k ost0).op=2 by omega)])|(rw[if_neg (show ¬ari (ss.getD k ost0).op=0 by omega),if_pos (show ari (ss.getD k ost0).op=2 by omega),if_neg (show ¬(ss.getD k ost0).op=11 by omega),if_neg (show ¬((ss.getD k ost0).op=8∧(ss.getD k ost0).n≠0) by omega)];omega)
       refine lV 78 (iV (weightS (ss.getD k ost0).stp L)) ?_ (hr:=rint (n:=(1:Int)) kR hX37);cases zj:(decide ((65536:Int)<(weightS (ss.getD k ost0).stp L:Int)))
       ·
        have zv:=oF zj;refine lB 79 zj (lN (cIF (cK (kQ (lL hs [.m 80 3] ?_)))));have hX39:(1:Int)=weightS (ss.getD k ost0).stp L:=by rw[weigh_o hWt ‹Formed inp k (ss.getD k ost0).stp›];(try unfold weighS);first|(rw[if_pos (show ari (ss.getD k ost0).op=0 by omega)])|(rw[if_neg (show ¬ari (ss.getD k ost0).op=0 by omega),if_neg (show ¬ari (ss.getD k ost0).op=2 by omega)])|(rw[if_neg (show ¬ari (ss.getD k ost0).op=0 by omega),if_pos (show ari (ss.getD k ost0).op=2 by omega),if_neg (show ¬(ss.getD k ost0).op=11 by omega),if_neg (show ¬((ss.getD k ost0).op=8∧(ss.getD k ost0).n≠0) by omega)];omega)
        refine lV 81 (iV (weightS (ss.getD k ost0).stp L)) ?_ (hr:=rint (n:=(1:Int)) kR hX39);refine lR 82 3 1 ([iV (weightS (ss.getD k ost0).stp L)]) hs (fun zE _ _ hs=>lY 83 0 3 1 wac waA L i64c (weightS (ss.getD k ost0).stp L) 8 zE (iV 0) hs hs.f.1 (fun zF zG _ zH hs=>lL hs [.m 3 83] (lN (kQ (lL hs [.m 33 4] (lIn 34 ((k:Nat)+1) (k+1) ?_))))));refine lL hs [.m 4 34] (lD ?_);intro a_ ka;replace hs:=hs.tl.tl.tl;replace hs:=hs.drop 1 0;refine ⟨_,_,?_,⟨k+1,zF,zG,L++[weightS (ss.getD k ost0).stp L],zH,rfl,rfl,hs.to _ _,oM,(by simp;omega),(Wts.app hWt hll hws.1 oM),(hgo.trans ((goS_step (by rw[List.length_map];omega) hll (by rw[stp_getD oM];exact ‹Formed inp k (ss.getD k ost0).stp›) (by rw[stp_getD oM];omega)).trans (by rw[stp_getD oM])))⟩,ka.to _ kR⟩
        omega
       have zv:=oT zj;exact lB 79 zj (lN (cIT (cSL (lL hs [.v 2 (iV 18)] (lN (kX (hs.ret [] (iV 18) (congrArg (Value.int .i64) ((chkTp_go hsh (by rw[hgo,goS_over (by rw[List.length_map];omega) hll (by rw[stp_getD oM];exact ‹Formed inp k (ss.getD k ost0).stp›) (by rw[stp_getD oM];omega)];decide)).trans (hgo.trans (goS_over (by rw[List.length_map];omega) hll (by rw[stp_getD oM];exact ‹Formed inp k (ss.getD k ost0).stp›) (by rw[stp_getD oM];omega)))).symm))))))))
      have zu:=eq_of_beq zi;refine lB 60 zi (lL hs [.m 59 60] (lN (cIT (cR 17 [] mixed hs al_nil ?_))));refine eV 0 61 (pB zb) (eO 1 62 [(0,0,1)] (iV ((ss.getD k ost0).op)) hs (eV 2 63 (qP zb 3) (eO 3 64 [(0,3,1)] (iV ((ss.getD k ost0).n)) hs (eV 4 65 (qS waA ((L).length) wac) (eV 5 66 (qP zb 1) (eO 6 67 [(0,1,1)] (iV ((ss.getD k ost0).a)) hs ?_))))));obtain ⟨za,zw⟩:=hs.rowA 0 (A:=waA) (c:=wac) (m:=(L).length) (ty:=3) (sz:=1) (cs:=(L).flatMap i64c) oM;subst zw;refine eX 7 68 (sB za) ((L).length) wac 1 ((ss.getD k ost0).a) ((ss.getD k ost0).a.toNat) rfl (eRq (ty:=3) (sz:=1) (c:=wac) (m:=(L).length) (b:=za) (cs:=(L).flatMap i64c) 8 69 0 (iV (L.getD ((ss.getD k ost0).a.toNat) 0)) (i64c (L.getD ((ss.getD k ost0).a.toNat) 0)) hs (row_el (f:=i64c) (sz:=1) (fun _=>rfl) 0 L ((ss.getD k ost0).a.toNat) oM) (eV 9 70 (qS (sB za) ((L).length) wac) (eV 10 71 (qP zb 2) (eO 11 72 [(0,2,1)] (iV ((ss.getD k ost0).b)) hs (eX 12 73 (sB za) ((L).length) wac 1 ((ss.getD k ost0).b) ((ss.getD k ost0).b.toNat) rfl (eRq (ty:=3) (sz:=1) (c:=wac) (m:=(L).length) (b:=za) (cs:=(L).flatMap i64c) 13 74 0 (iV (L.getD ((ss.getD k ost0).b.toNat) 0)) (i64c (L.getD ((ss.getD k ost0).b.toNat) 0)) hs (row_el (f:=i64c) (sz:=1) (fun _=>rfl) 0 L ((ss.getD k ost0).b.toNat) oM) (eI 14 75 ((L.getD ((ss.getD k ost0).a.toNat) 0)+(L.getD ((ss.getD k ost0).b.toNat) 0)) (eV 15 76 (iV (min ((L.getD ((ss.getD k ost0).a.toNat) 0)+(L.getD ((ss.getD k ost0).b.toNat) 0):Int) (1073741824:Int))) ?_ (hv:=fun _=>rint (n:=(if (1073741824:Int)<((L.getD ((ss.getD k ost0).a.toNat) 0)+(L.getD ((ss.getD k ost0).b.toNat) 0):Int) then (1073741824:Int) else ((L.getD ((ss.getD k ost0).a.toNat) 0)+(L.getD ((ss.getD k ost0).b.toNat) 0):Int))) kR (by simp only[imin2]))))))))));refine eC 16 77 hs (fun _ _ hs=>rWeigh (ss.getD k ost0).op (ss.getD k ost0).n (min ((L.getD ((ss.getD k ost0).a.toNat) 0)+(L.getD ((ss.getD k ost0).b.toNat) 0):Int) (1073741824:Int)) oM oM _ _ hs.g) ?_;rintro _ _ _ _ _ hs rfl;refine eD0 hs (fun _ _ hs=>tV 17 6 (iV (weighS (ss.getD k ost0).op (ss.getD k ost0).n (min ((L.getD ((ss.getD k ost0).a.toNat) 0)+(L.getD ((ss.getD k ost0).b.toNat) 0):Int) (1073741824:Int)))) (tN (cTo [(1,pB b1),(4,nV k),(3,qS (sB za) ((L).length) wac),(6,iV (weighS (ss.getD k ost0).op (ss.getD k ost0).n (min ((L.getD ((ss.getD k ost0).a.toNat) 0)+(L.getD ((ss.getD k ost0).b.toNat) 0):Int) (1073741824:Int))))] ?_)));refine cQ (cSL ?_);have hX59:(weighS (ss.getD k ost0).op (ss.getD k ost0).n (min ((L.getD ((ss.getD k ost0).a.toNat) 0)+(L.getD ((ss.getD k ost0).b.toNat) 0):Int) (1073741824:Int)):Int)=weightS (ss.getD k ost0).stp L:=by rw[weigh_o hWt ‹Formed inp k (ss.getD k ost0).stp›];(try unfold weighS);first|(rw[if_pos (show ari (ss.getD k ost0).op=0 by omega)])|(rw[if_neg (show ¬ari (ss.getD k ost0).op=0 by omega),if_neg (show ¬ari (ss.getD k ost0).op=2 by omega)])|(rw[if_neg (show ¬ari (ss.getD k ost0).op=0 by omega),if_pos (show ari (ss.getD k ost0).op=2 by omega),if_neg (show ¬(ss.getD k ost0).op=11 by omega),if_neg (show ¬((ss.getD k ost0).op=8∧(ss.getD k ost0).n≠0) by omega)];omega)
      refine lV 78 (iV (weightS (ss.getD k ost0).stp L)) ?_ (hr:=rint (n:=(weighS (ss.getD k ost0).op (ss.getD k ost0).n (min ((L.getD ((ss.getD k ost0).a.toNat) 0)+(L.getD ((ss.getD k ost0).b.toNat) 0):Int) (1073741824:Int)):Int)) kR hX59);cases zk:(decide ((65536:Int)<(weightS (ss.getD k ost0).stp L:Int)))
      ·
       have zx:=oF zk;refine lB 79 zk (lN (cIF (cK (kQ (lL hs [.m 80 3] ?_)))));have hX61:(weighS (ss.getD k ost0).op (ss.getD k ost0).n (min ((L.getD ((ss.getD k ost0).a.toNat) 0)+(L.getD ((ss.getD k ost0).b.toNat) 0):Int) (1073741824:Int)):Int)=weightS (ss.getD k ost0).stp L:=by rw[weigh_o hWt ‹Formed inp k (ss.getD k ost0).stp›];(try unfold weighS);first|(rw[if_pos (show ari (ss.getD k ost0).op=0 by omega)])|(rw[if_neg (show ¬ari (ss.getD k ost0).op=0 by omega),if_neg (show ¬ari (ss.getD k ost0).op=2 by omega)])|(rw[if_neg (show ¬ari (ss.getD k ost0).op=0 by omega),if_pos (show ari (ss.getD k ost0).op=2 by omega),if_neg (show ¬(ss.getD k ost0).op=11 by omega),if_neg (show ¬((ss.getD k ost0).op=8∧(ss.getD k ost0).n≠0) by omega)];omega)
       refine lV 81 (iV (weightS (ss.getD k ost0).stp L)) ?_ (hr:=rint (n:=(weighS (ss.getD k ost0).op (ss.getD k ost0).n (min ((L.getD ((ss.getD k ost0).a.toNat) 0)+(L.getD ((ss.getD k ost0).b.toNat) 0):Int) (1073741824:Int)):Int)) kR hX61);refine lR 82 3 1 ([iV (weightS (ss.getD k ost0).stp L)]) hs (fun zI _ _ hs=>lY 83 0 3 1 wac (sB za) L i64c (weightS (ss.getD k ost0).stp L) 8 zI (iV 0) hs hs.f.1 (fun zJ zK _ zL hs=>lL hs [.m 3 83] (lN (kQ (lL hs [.m 33 4] (lIn 34 ((k:Nat)+1) (k+1) ?_))))));refine lL hs [.m 4 34] (lD ?_);intro a_ ka;replace hs:=hs.tl.tl.tl;replace hs:=hs.drop 1 0;refine ⟨_,_,?_,⟨k+1,zJ,zK,L++[weightS (ss.getD k ost0).stp L],zL,rfl,rfl,hs.to _ _,oM,(by simp;omega),(Wts.app hWt hll hws.1 oM),(hgo.trans ((goS_step (by rw[List.length_map];omega) hll (by rw[stp_getD oM];exact ‹Formed inp k (ss.getD k ost0).stp›) (by rw[stp_getD oM];omega)).trans (by rw[stp_getD oM])))⟩,ka.to _ kR⟩
       omega
      have zx:=oT zk;exact lB 79 zk (lN (cIT (cSL (lL hs [.v 2 (iV 18)] (lN (kX (hs.ret [] (iV 18) (congrArg (Value.int .i64) ((chkTp_go hsh (by rw[hgo,goS_over (by rw[List.length_map];omega) hll (by rw[stp_getD oM];exact ‹Formed inp k (ss.getD k ost0).stp›) (by rw[stp_getD oM];omega)];decide)).trans (hgo.trans (goS_over (by rw[List.length_map];omega) hll (by rw[stp_getD oM];exact ‹Formed inp k (ss.getD k ost0).stp›) (by rw[stp_getD oM];omega)))).symm))))))))
     have zt:=eq_of_beq zg;refine lB 48 zg (lL hs [.m 47 48] (lN (cIT (cR 10 [] mixed hs al_nil ?_))));refine eV 0 49 (pB zb) (eO 1 50 [(0,0,1)] (iV ((ss.getD k ost0).op)) hs (eV 2 51 (qP zb 3) (eO 3 52 [(0,3,1)] (iV ((ss.getD k ost0).n)) hs (eV 4 53 (qS waA ((L).length) wac) (eV 5 54 (qP zb 1) (eO 6 55 [(0,1,1)] (iV ((ss.getD k ost0).a)) hs ?_))))));obtain ⟨zm,zA⟩:=hs.rowA 0 (A:=waA) (c:=wac) (m:=(L).length) (ty:=3) (sz:=1) (cs:=(L).flatMap i64c) oM;subst zA;refine eX 7 56 (sB zm) ((L).length) wac 1 ((ss.getD k ost0).a) ((ss.getD k ost0).a.toNat) rfl (eRq (ty:=3) (sz:=1) (c:=wac) (m:=(L).length) (b:=zm) (cs:=(L).flatMap i64c) 8 57 0 (iV (L.getD ((ss.getD k ost0).a.toNat) 0)) (i64c (L.getD ((ss.getD k ost0).a.toNat) 0)) hs (row_el (f:=i64c) (sz:=1) (fun _=>rfl) 0 L ((ss.getD k ost0).a.toNat) oM) (eC 9 58 hs (fun _ _ hs=>rWeigh (ss.getD k ost0).op (ss.getD k ost0).n (L.getD ((ss.getD k ost0).a.toNat) 0) oM oM _ _ hs.g) ?_));rintro _ _ _ _ _ hs rfl;refine eD0 hs (fun _ _ hs=>tV 10 6 (iV (weighS (ss.getD k ost0).op (ss.getD k ost0).n (L.getD ((ss.getD k ost0).a.toNat) 0))) (tN (cQ (cSL ?_))));have hX81:(weighS (ss.getD k ost0).op (ss.getD k ost0).n (L.getD ((ss.getD k ost0).a.toNat) 0):Int)=weightS (ss.getD k ost0).stp L:=by rw[weigh_o hWt ‹Formed inp k (ss.getD k ost0).stp›];(try unfold weighS);first|(rw[if_pos (show ari (ss.getD k ost0).op=0 by omega)])|(rw[if_neg (show ¬ari (ss.getD k ost0).op=0 by omega),if_neg (show ¬ari (ss.getD k ost0).op=2 by omega)])|(rw[if_neg (show ¬ari (ss.getD k ost0).op=0 by omega),if_pos (show ari (ss.getD k ost0).op=2 by omega),if_neg (show ¬(ss.getD k ost0).op=11 by omega),if_neg (show ¬((ss.getD k ost0).op=8∧(ss.getD k ost0).n≠0) by omega)];omega)
     refine lV 78 (iV (weightS (ss.getD k ost0).stp L)) ?_ (hr:=rint (n:=(weighS (ss.getD k ost0).op (ss.getD k ost0).n (L.getD ((ss.getD k ost0).a.toNat) 0):Int)) kR hX81);cases zl:(decide ((65536:Int)<(weightS (ss.getD k ost0).stp L:Int)))
     ·
      have zB:=oF zl;refine lB 79 zl (lN (cIF (cK (kQ (lL hs [.m 80 3] ?_)))));have hX83:(weighS (ss.getD k ost0).op (ss.getD k ost0).n (L.getD ((ss.getD k ost0).a.toNat) 0):Int)=weightS (ss.getD k ost0).stp L:=by rw[weigh_o hWt ‹Formed inp k (ss.getD k ost0).stp›];(try unfold weighS);first|(rw[if_pos (show ari (ss.getD k ost0).op=0 by omega)])|(rw[if_neg (show ¬ari (ss.getD k ost0).op=0 by omega),if_neg (show ¬ari (ss.getD k ost0).op=2 by omega)])|(rw[if_neg (show ¬ari (ss.getD k ost0).op=0 by omega),if_pos (show ari (ss.getD k ost0).op=2 by omega),if_neg (show ¬(ss.getD k ost0).op=11 by omega),if_neg (show ¬((ss.getD k ost0).op=8∧(ss.getD k ost0).n≠0) by omega)];omega)
      refine lV 81 (iV (weightS (ss.getD k ost0).stp L)) ?_ (hr:=rint (n:=(weighS (ss.getD k ost0).op (ss.getD k ost0).n (L.getD ((ss.getD k ost0).a.toNat) 0):Int)) kR hX83);refine lR 82 3 1 ([iV (weightS (ss.getD k ost0).stp L)]) hs (fun zM _ _ hs=>lY 83 0 3 1 wac (sB zm) L i64c (weightS (ss.getD k ost0).stp L) 8 zM (iV 0) hs hs.f.1 (fun zN zP _ zQ hs=>lL hs [.m 3 83] (lN (kQ (lL hs [.m 33 4] (lIn 34 ((k:Nat)+1) (k+1) ?_))))));refine lL hs [.m 4 34] (lD ?_);intro a_ ka;replace hs:=hs.tl.tl.tl;replace hs:=hs.drop 1 0;refine ⟨_,_,?_,⟨k+1,zN,zP,L++[weightS (ss.getD k ost0).stp L],zQ,rfl,rfl,hs.to _ _,oM,(by simp;omega),(Wts.app hWt hll hws.1 oM),(hgo.trans ((goS_step (by rw[List.length_map];omega) hll (by rw[stp_getD oM];exact ‹Formed inp k (ss.getD k ost0).stp›) (by rw[stp_getD oM];omega)).trans (by rw[stp_getD oM])))⟩,ka.to _ kR⟩
      omega
     have zB:=oT zl;exact lB 79 zl (lN (cIT (cSL (lL hs [.v 2 (iV 18)] (lN (kX (hs.ret [] (iV 18) (congrArg (Value.int .i64) ((chkTp_go hsh (by rw[hgo,goS_over (by rw[List.length_map];omega) hll (by rw[stp_getD oM];exact ‹Formed inp k (ss.getD k ost0).stp›) (by rw[stp_getD oM];omega)];decide)).trans (hgo.trans (goS_over (by rw[List.length_map];omega) hll (by rw[stp_getD oM];exact ‹Formed inp k (ss.getD k ost0).stp›) (by rw[stp_getD oM];omega)))).symm))))))))
    have phb7:=oT hb7;exact lB 26 hb7 (lL hs [.v 27 qT] (lN (cIT (cSL (lL hs [.v 2 (iV 5)] (lN (kX (hs.ret [] (iV 5) (congrArg (Value.int .i64) (chkTp_shape (by rw[List.length_map];omega)).symm)))))))))
   have phb6:=oT hb6;refine lB 20 hb6 (lL hs [.v 21 qT,.m 22 21] (lG 23 ?_));exact lG 24 (lG 25 (lG 26 (lL hs [.v 27 qT] (lN (cIT (cSL (lL hs [.v 2 (iV 5)] (lN (kX (hs.ret [] (iV 5) (congrArg (Value.int .i64) (chkTp_shape (by rw[List.length_map];omega)).symm)))))))))))
  have phb5:=oT hb5;refine lB 14 hb5 (lL hs [.v 15 qT,.m 16 15] (lG 17 ?_));refine lG 18 (lG 19 (lG 20 (lL hs [.v 21 qT,.m 22 21] (lG 23 ?_))));exact lG 24 (lG 25 (lG 26 (lL hs [.v 27 qT] (lN (cIT (cSL (lL hs [.v 2 (iV 5)] (lN (kX (hs.ret [] (iV 5) (congrArg (Value.int .i64) (chkTp_shape (by rw[List.length_map];omega)).symm)))))))))))
 have phb4:=oT hb4;refine lB 10 hb4 (lL hs [.m 11 10] (lG 12 ?_));refine lG 13 (lG 14 (lL hs [.v 15 qT,.m 16 15] (lG 17 ?_)));refine lG 18 (lG 19 (lG 20 (lL hs [.v 21 qT,.m 22 21] (lG 23 ?_))));exact lG 24 (lG 25 (lG 26 (lL hs [.v 27 qT] (lN (cIT (cSL (lL hs [.v 2 (iV 5)] (lN (kX (hs.ret [] (iV 5) (congrArg (Value.int .i64) (chkTp_shape (by rw[List.length_map];omega)).symm)))))))))))
theorem rtv_cells {t:RT}{a b c:Value}(e:rtv t=.agg #[a,b,c]):rqc t=[a,b,c]:=by
  unfold rtv at e
  injection e with e
  simp only[Array.mk.injEq,List.cons.injEq,and_true] at e
  obtain ⟨e1,e2,e3⟩:=e
  unfold rqc;rw[←e1,←e2,←e3]
theorem num_none {o:OSt}(hz:o.has=false→o.q=0)(h:odn o=0∨o.q.num=0):o.q=((0:Int):Rat):=by
  rcases h with h|h
  · refine hz ?_
    have h2:=odn_pos (o:=o);rw[h,lim_zero] at h2
    cases h3:o.has with
    | false=>rfl
    | true=>rw[h3] at h2;simp at h2
  · exact Rat.num_eq_zero.1 h
theorem odn_some {o:OSt}(hz:o.has=false→o.q=0)(h:¬(odn o=0∨o.q.num=0)):odn o=o.q.den:=by
  refine odn_has ?_;cases h3:o.has with
  | true=>rfl
  | false=>exact absurd (.inr (by rw[hz h3];rfl)) h
theorem sgn_pos {a:Rat}:0<a.num.sign↔0<a:=by
  rw[Rat.lt_iff]
  rcases Int.lt_trichotomy a.num 0 with h|h|h
  · rw[Int.sign_eq_neg_one_of_neg h];simp;omega
  · rw[h];simp
  · rw[Int.sign_eq_one_of_pos h];simpa using h
theorem opv_q {op n:Int}{q q' a b:Rat}(h:op≠1):opv op n q a b=opv op n q' a b:=by unfold opv;rw[if_neg h,if_neg h]
theorem sval_1 {s:Stp}{at_ v:List Rat}(h:s.op=1):sval s at_ v=s.q:=by
  unfold sval;rw[if_neg oM,h];rfl
theorem ok_1 {s:Stp}{a b:Rat}(h:s.op=1):okq s.op s.n a b:=⟨fun e=>by omega,fun e=>by omega⟩
theorem rNumber (o:OSt)(A:Option Addr)(c:Nat)(D:Option Addr)(d:Nat)(hc:(lim (iabs o.q.num)).length≤c)(hd:(lim (odn o)).length≤d)(hz:o.has=false→o.q=0)(w:World)(h:Hp)(g:G w h)(hA:S3 A (lim (iabs o.q.num)) h)(hD:S3 D (lim (odn o)) h):CR 49 #[.agg #[.bool (ineg o.q.num),.slice A ((lim (iabs o.q.num)).length) c,.slice D ((lim (odn o)).length) d]] w h (fun v h1=>RQ h1 v o.q):=by
 have hs:=(((sS g).aS hA).aS hD);refine go Tryz.func49 [(0,.agg #[.bool (ineg o.q.num),qS A ((lim (iabs o.q.num)).length) c,qS D ((lim (odn o)).length) d])] rfl (cSL (lA 1 97 ([.bool (ineg o.q.num),qS A ((lim (iabs o.q.num)).length) c,qS D ((lim (odn o)).length) d]) hs (fun b1 w2 h3 hs=>lA 2 97 ([qF,sZ,sZ]) hs (fun b4 w5 h6 hs=>lN (cQ (cSL (lL hs [.o 3 (.agg #[.bool (ineg o.q.num),qS A ((lim (iabs o.q.num)).length) c,qS D ((lim (odn o)).length) d]) 1 0 3] (lC 4 hs (rZero o.q.num A c (odn o) D d hc hd _ _ hs.g hs.f.2.1 hs.f.1) ?_))))))));rintro _ w7 h8 hs rfl;cases hb9:(decide (odn o=0∨o.q.num=0))
 ·
  have phb9:=oF hb9;exact lN (cIF (cK (cSL (lL hs [.o 6 (.agg #[.bool (ineg o.q.num),qS A ((lim (iabs o.q.num)).length) c,qS D ((lim (odn o)).length) d]) 1 0 3] (lP 0 0 ([.bool (ineg o.q.num),qS A ((lim (iabs o.q.num)).length) c,qS D ((lim (odn o)).length) d]) hs (fun _ hs=>lN (kX (hs.ret [(0,0,3)] (.agg #[.bool (ineg o.q.num),qS A ((lim (iabs o.q.num)).length) c,qS D ((lim (odn o)).length) d]) (by have hod:=odn_some hz (o:=o) oM;show RP _ _ o.q.num o.q.den;rw[←hod];exact ⟨A,c,D,d,rfl,hc,hd,hs.f.2.1,hs.f.1⟩)))))))))
 have phb9:=oT hb9;refine lN (cIT (cSL (lC 5 hs (rOf 0 oM oM _ _ hs.g) ?_)));rintro _ _ _ hs ⟨za,zb,zc,zd,rfl,ze,zf,zg,zi⟩;replace hs:=hs.aP zg zi;exact lP 0 0 (rqx ((0:Int):Rat) za zb zc zd) hs (fun _ hs=>lN (kX (hs.ret [(0,0,3)] (rG ((0:Int):Rat) za zb zc zd) (RQ.eq ⟨_,_,_,_,rfl,ze,zf,hs.f.2.1,hs.f.1⟩ (num_none hz oM).symm))))
theorem rPick (vs:List Rat)(os:List Int)(tv:List RT)(V:Option Addr)(cV:Nat)(O:Option Addr)(d:Nat)(ho:os.length≤1000)(hO2:OutsOk vs.length os)(w:World)(h:Hp)(g:G w h)(hV:Sr V tv h)(hTv:RTs h tv vs)(hO:Si O os h):CR 52 #[.slice V tv.length cV,.slice O os.length d] w h (fun v h1=>∃ A c ts,v=.slice A (ts:List RT).length c∧ts.length≤c∧Sr A ts h1∧RTs h1 ts (pickL vs os)):=by
 have hs:=((((sS g).aS hV).aT hTv).aS hO);have hlv:=(hs.f.2.1).len;refine go Tryz.func52 [(0,qS V tv.length cV),(1,qS O os.length d)] rfl (cSL (lL hs [.v 4 (sZ)] (lNS (lL hs [.v 5 (sZ)] (lN (cQ (cSL (lL hs [.v 6 (iV 0)] (lN (kZ ?_))))))))));replace hs:=hs.nil 97 3;refine cTo [(0,qS V tv.length cV),(1,qS O os.length d),(4,sZ),(6,iV 0),(5,sZ)] ?_;replace hs:=hs.aT (RTs.nil);refine CG.loop (fun μ_ Γ w_=>∃ (k:Nat) (sA:Option Addr) (sc:Nat) (tl:List RT) (h_:Hp),μ_=os.length-k∧Γ=[(0,qS V tv.length cV),(1,qS O os.length d),(4,sZ),(6,nV k),(5,qS sA ((tl).length) sc)]∧SS w h w_ h_ [] [⟨97,3,sA,sc,(tl).length,(tl).flatMap rqc⟩] [Rt tl (pickL vs (os.take k)),Si O os,Rt tv vs,Sr V tv]∧k≤os.length) _ ⟨0,none,0,[],h,rfl,rfl,hs.to _ _,Nat.zero_le _⟩ ?_;rintro _ _ w1 ⟨k,sA,sc,tl,h2,hm3,rfl,hs,hk⟩;have hlT:=(hs.f.1).len;have hlp:(pickL vs (os.take k)).length=k:=by unfold pickL;simp;omega
 refine cQ (cSL (lL hs [.m 7 6,.m 8 1,.v 9 (nV os.length)] ?_));cases hb4:(decide ((k:Int)<(os.length:Int)))
 ·
  have phb4:=oF hb4;refine lB 10 hb4 (lN (cIF (CG.exit ?_)))
  show CG _ _ _ _ _ _ _ _
  refine cSL (lL hs [.m 23 5,.m 4 23] (lN (kX ?_)));have hkn:k=os.length:=by omega
  obtain ⟨h5,hs,hc6⟩:=hs.pubr 0 (A:=sA) (c:=sc) (l:=tl) (f:=rqc) (ty:=97) (sz:=3) rqd (fun _=>rfl);exact hs.ret [] (qS sA ((tl).length) sc) (by have e_:pickL vs (os.take k)=pickL vs os:=(by rw[hkn,List.take_length]);exact ⟨_,_,tl,rfl,hc6,hs.f.1,e_▸(hs.f.2.1)⟩)
 have phb4:=oT hb4;refine lB 10 hb4 (lN (cIT (cK (cQ (kZ (kQ ?_))))));have hok:=hO2 k oM;refine lL hs [.m 13 5,.m 14 0,.m 15 1,.m 16 6] (lX 17 O os.length d 1 (k:Nat) k ((hs.f.2.1).ok oM) ?_);refine lH 18 (iV (os.getD k 0)) hs ((hs.f.2.1).el k oM) (lX 19 V tv.length cV 3 (os.getD k 0) ((os.getD k 0).toNat) ((hs.f.r.2.1).ok oM) ?_);obtain ⟨Ax,cx,Dx,dx,ex,hcx,hdx,hAx,hDx⟩:=(hs.f.r.1).at_ ((os.getD k 0).toNat) oM;replace hs:=hs.aP hAx hDx;refine lHe 20 (rA (tv.getD ((os.getD k 0).toNat) rqd)) hs ((hs.f.q.2.1).el ((os.getD k 0).toNat) oM) ex (lR 21 97 1 (rqx (vs.getD ((os.getD k 0).toNat) 0) Ax cx Dx dx) hs (fun b8 w9 _ hs=>lY 22 0 97 3 sc sA tl rqc ((ineg (vs.getD ((os.getD k 0).toNat) 0).num,qS Ax ((lim (iabs (vs.getD ((os.getD k 0).toNat) 0).num)).length) cx,qS Dx ((lim (vs.getD ((os.getD k 0).toNat) 0).den).length) dx):RT) 56 b8 (.agg #[qF,sZ,sZ]) hs hs.f.1 (fun za zb _ zc hs=>lL hs [.m 5 22] (lN (kQ (lL hs [.m 11 6] (lIn 12 ((k:Nat)+1) (k+1) ?_)))))));refine lL hs [.m 6 12] (lD ?_);intro a_ ka;replace hs:=(hs.tl.tl.tl.tl.add (K:=Rt (tl++[((ineg (vs.getD ((os.getD k 0).toNat) 0).num,qS Ax ((lim (iabs (vs.getD ((os.getD k 0).toNat) 0).num)).length) cx,qS Dx ((lim (vs.getD ((os.getD k 0).toNat) 0).den).length) dx):RT)]) (pickL vs (os.take (k+1)))) (by rw[take_snoc' 0 oM];unfold pickL;rw[List.map_append];exact (hs.f.r.2.1).snoc ⟨_,_,_,_,rfl,hcx,hdx,hs.f.r.1,hs.f.2.1⟩));refine ⟨_,_,?_,⟨k+1,za,zb,tl++[((ineg (vs.getD ((os.getD k 0).toNat) 0).num,qS Ax ((lim (iabs (vs.getD ((os.getD k 0).toNat) 0).num)).length) cx,qS Dx ((lim (vs.getD ((os.getD k 0).toNat) 0).den).length) dx):RT)],zc,rfl,rfl,hs.to _ _,oM⟩,ka.to _ kR⟩
 omega
section ro
variable {w0:World} {h0:Hp} {w:World} {h:Hp} {B:List Bx} {R:List Rw} {F:List (Hp→Prop)}
theorem SS.ro_jk (s:SS w0 h0 w h B R F)(j:Nat){ty:TypeId}{sz c m:Nat}{A:Option Addr}{cs:List Value}(hr:R.getD j default=⟨ty,sz,A,c,m,cs⟩:=by kernel_rfl)(hj:decide (j<R.length)=true:=by kernel_rfl):∀ b∈(Value.slice A m c).ownBlock.toList,h[b]?=some junk:=fun b hb=>by
  have hj':=oT hj;have r:=s.ro _ (List.getElem_mem hj');rw[rw_get hr hj'] at r
  exact r.jk b (Option.mem_toList.1 hb)
theorem SS.ro_lt (s:SS w0 h0 w h B R F)(j:Nat){ty:TypeId}{sz c m:Nat}{A:Option Addr}{cs:List Value}(hr:R.getD j default=⟨ty,sz,A,c,m,cs⟩:=by kernel_rfl)(hj:decide (j<R.length)=true:=by kernel_rfl):∀ b∈(Value.slice A m c).ownBlock.toList,b<h.size:=fun b hb=>by
  have hj':=oT hj;have r:=s.ro _ (List.getElem_mem hj');rw[rw_get hr hj'] at r
  exact lt_of_some (r.jk b (Option.mem_toList.1 hb))
theorem SS.ro_ne (s:SS w0 h0 w h B R F)(q j:Nat){ty:TypeId}{sz c m:Nat}{A:Option Addr}{cs:List Value}(hq:decide (q<B.length)=true:=by kernel_rfl)(hr:R.getD j default=⟨ty,sz,A,c,m,cs⟩:=by kernel_rfl)(hj:decide (j<R.length)=true:=by kernel_rfl):(bxAt B q).b ∉ (Value.slice A m c).ownBlock.toList:=fun hb=>by
  have hj':=oT hj;have r:=s.ro _ (List.getElem_mem hj');rw[rw_get hr hj'] at r
  exact r.ap _ (Option.mem_toList.1 hb) (List.mem_map.2 ⟨_,bxAt_mem (oT hq),rfl⟩)
end ro
def psum (xs ys:List Rat)(i:Nat):Nat→Rat
  | 0=>((0:Int):Rat)
  | j+1=>psum xs ys i j+xs.getD j 0*ys.getD (i-j) 0
theorem psum_lq {xs ys:List Rat}{K L i:Nat}(ha:∀ j,LQ K (xs.getD j 0))(hb:∀ j,LQ L (ys.getD j 0)):∀ j,LQ (j*(K+L+1)+1) (psum xs ys i j)
  | 0=>LQ.mono (k:=1) (LQ.lit (z:=0) kD) oM
  | j+1=>((psum_lq ha hb j).add ((ha j).mul (hb (i-j)))).mono (by rw[Nat.add_mul];omega)
def qrem (xs ys os:List Rat)(i:Nat):Nat→Rat
  | 0=>xs.getD i 0
  | j+1=>qrem xs ys os i j-os.getD j 0*ys.getD (i-j) 0
def qser (xs ys:List Rat):Nat→List Rat
  | 0=>[]
  | k+1=>qser xs ys k++[qrem xs ys (qser xs ys k) k k/ys.getD 0 0]
theorem qser_len (xs ys:List Rat):∀ k,(qser xs ys k).length=k
  | 0=>rfl
  | k+1=>by show (qser xs ys k++[_]).length=_;rw[List.length_append,qser_len xs ys k];rfl
theorem qrem_lq {xs ys os:List Rat}{K L i:Nat}(ha:∀ j,LQ K (xs.getD j 0))(hb:∀ j,LQ L (ys.getD j 0))(ho:∀ j,LQ (K+L) (os.getD j 0))(hi:i≤1):∀ j,j≤i→LQ (2*K+2*L+2) (qrem xs ys os i j)
  | 0,_=>(ha i).mono oM
  | 1,_=>((ha i).sub ((ho 0).mul (hb (i-0)))).mono oM
  | j+2,h=>absurd h oM
theorem qser_lq {xs ys:List Rat}{K L k:Nat}(hk:k≤1)(hK:1≤K)(ha:∀ j,LQ K (xs.getD j 0))(hb:∀ j,LQ L (ys.getD j 0)):∀ j,LQ (K+L) ((qser xs ys k).getD j 0):=by
  intro j
  rcases Nat.lt_or_ge 0 k with h|h
  · obtain rfl:k=1:=by omega
    cases j with
    | zero=>exact (ha 0).div (hb 0)
    | succ j=>show LQ _ (([]:List Rat).getD j 0);simp;exact lq0 oM
  · obtain rfl:k=0:=by omega
    show LQ _ (([]:List Rat).getD j 0);simp;exact lq0 oM
theorem rTimes (A:Option Addr)(cA:Nat)(xs:List Rat)(ta:List RT)(q:Rat)(A1:Option Addr)(c1:Nat)(D1:Option Addr)(d1:Nat)(hc1:(lim (iabs q.num)).length≤c1)(hd1:(lim q.den).length≤d1)(K L:Nat)(hK:3*K+3*L+10≤100000000)(hn:xs.length≤2)(ha:∀ j,LQ K (xs.getD j 0))(hq:LQ L q)(w:World)(h:Hp)(g:G w h)(hA:Sr A ta h)(hTa:RTs h ta xs)(hA1:S3 A1 (lim (iabs q.num)) h)(hD1:S3 D1 (lim q.den) h):CR 126 #[.slice A ta.length cA,rG q A1 c1 D1 d1] w h (fun v h1=>∃ A c ts,v=.slice A (ts:List RT).length c∧ts.length≤c∧Sr A ts h1∧RTs h1 ts ((List.range xs.length).map fun i=>xs.getD i 0*q)):=by
 have hs:=(((((sS g).aS hA).aT hTa).aS hA1).aS hD1);have hla:=(hs.f.r.1).len;refine go Tryz.func126 [(0,qS A ta.length cA),(1,rG q A1 c1 D1 d1)] rfl (cSL (lA 3 97 (rqx q A1 c1 D1 d1) hs (fun b1 w2 h3 hs=>lL hs [.v 4 (sZ)] (lNS (lL hs [.v 5 (sZ)] (lN (cQ (cSL (lL hs [.v 6 (iV 0)] (lN (kZ ?_)))))))))));replace hs:=hs.nil 97 3;refine cTo [(0,qS A ta.length cA),(3,pB b1),(4,sZ),(6,iV 0),(5,sZ)] ?_;replace hs:=hs.aT (RTs.nil);refine CG.loop (fun μ_ Γ w_=>∃ (k:Nat) (sA:Option Addr) (sc:Nat) (tl:List RT) (h_:Hp),μ_=xs.length-k∧Γ=[(0,qS A ta.length cA),(3,pB b1),(4,sZ),(6,nV k),(5,qS sA ((tl).length) sc)]∧SS w h w_ h_ [⟨b1,97,rqx q A1 c1 D1 d1⟩] [⟨97,3,sA,sc,(tl).length,(tl).flatMap rqc⟩] [Rt tl ((List.range k).map fun i=>xs.getD i 0*q),S3 D1 (lim q.den),S3 A1 (lim (iabs q.num)),Rt ta xs,Sr A ta]∧k≤xs.length) _ ⟨0,none,0,[],h3,rfl,rfl,hs.to _ _,Nat.zero_le _⟩ ?_;rintro _ _ w4 ⟨k,sA,sc,tl,h5,hm6,rfl,hs,hk⟩;have hlT:=(hs.f.1).len;rw[List.length_map,List.length_range] at hlT
 refine cQ (cSL (lL hs [.m 7 6,.m 8 0,.v 9 (nV ta.length)] ?_));cases hb7:(decide ((k:Int)<(ta.length:Int)))
 ·
  have phb7:=oF hb7;refine lB 10 hb7 (lN (cIF (CG.exit ?_)))
  show CG _ _ _ _ _ _ _ _
  refine cSL (lL hs [.m 22 5,.m 4 22] (lN (kX ?_)));obtain ⟨h8,hs,hc9⟩:=hs.pubr 0 (A:=sA) (c:=sc) (l:=tl) (f:=rqc) (ty:=97) (sz:=3) rqd (fun _=>rfl);exact hs.ret [] (qS sA ((tl).length) sc) (by rw[show xs.length=k by omega];exact ⟨_,_,tl,rfl,hc9,hs.f.1,hs.f.2.1⟩)
 have phb7:=oT hb7;refine lB 10 hb7 (lN (cIT (cK (cQ (kZ (CG.region ⟨((Value.slice sA ((tl).length) sc).ownBlock.toList),none⟩ 9 [] mixed kR hs.g al_nil (hs.ro_lt 0 (ty:=97) (sz:=3) (A:=sA) (c:=sc) (m:=(tl).length) (cs:=(tl).flatMap rqc)) ?_))))));refine eV 0 13 (qS sA ((tl).length) sc) (eV 1 14 (qS A ta.length cA) (eV 2 15 (nV k) (eX 3 16 A ta.length cA 3 (k:Nat) k ((hs.f.q.1).ok oM) ?_)));obtain ⟨Ax,cx,Dx,dx,ex,hcx,hdx,hAx,hDx⟩:=(hs.f.r.2.1).at_ k oM;replace hs:=hs.aP hAx hDx;refine eHe 4 17 (rA (ta.getD k rqd)) hs ((hs.f.q.r.1).el k oM) ex ?_ (hM:=hs.ro_jk 0 (ty:=97) (sz:=3) (A:=sA) (c:=sc) (m:=(tl).length) (cs:=(tl).flatMap rqc));refine eO 5 18 [(0,0,3)] (rG q A1 c1 D1 d1) hs ?_ (hM:=fun p hp=>by obtain rfl:=List.mem_singleton.1 hp;exact hs.ro_ne 0 0 (ty:=97) (sz:=3) (A:=sA) (c:=sc) (m:=(tl).length) (cs:=(tl).flatMap rqc));have hq11:=LQ.mul (ha k) hq;refine eC 6 19 hs (fun _ _ hs=>rMul (xs.getD k 0) Ax cx Dx dx hcx hdx (nl (ha k)) (nD (ha k)) q A1 c1 D1 d1 hc1 hd1 (nl hq) (nD hq) _ _ hs.g hs.f.2.1 hs.f.1 hs.f.q.1 hs.f.r.2.1) ?_;rintro _ _ _ _ _ hs ⟨za,zb,zc,zd,rfl,zg,zi,zj,zk⟩;replace hs:=hs.aP zj zk;refine eR 7 20 97 1 (rqx ((xs.getD k 0)*q) za zb zc zd) hs (fun zl _ _ hs=>eY 8 21 0 97 3 sc sA tl rqc ((ineg ((xs.getD k 0)*q).num,qS za ((lim (iabs ((xs.getD k 0)*q).num)).length) zb,qS zc ((lim ((xs.getD k 0)*q).den).length) zd):RT) 56 zl (.agg #[qF,sZ,sZ]) hs (fun _ f_=>f_.1) (fun b hb=>Option.mem_toList.2 hb) (fun ze zf _ _ hs=>eD0 hs (fun _ zm hs=>tV 9 5 (qS ze ((tl++[((ineg ((xs.getD k 0)*q).num,qS za ((lim (iabs ((xs.getD k 0)*q).num)).length) zb,qS zc ((lim ((xs.getD k 0)*q).den).length) zd):RT)]).length) zf) (tN (kQ (lL hs [.m 11 6] (lIn 12 ((k:Nat)+1) (k+1) ?_)))))));refine lL hs [.m 6 12] (lD ?_);intro a_ ka;replace hs:=(hs.tl.tl.tl.tl.tl.tl.add (K:=Rt (tl++[((ineg ((xs.getD k 0)*q).num,qS za ((lim (iabs ((xs.getD k 0)*q).num)).length) zb,qS zc ((lim ((xs.getD k 0)*q).den).length) zd):RT)]) ((List.range (k+1)).map fun i=>xs.getD i 0*q)) (by rw[List.range_succ,List.map_append];exact (hs.f.q.2.1).snoc (rqOk zg zi hs.f.r.1 hs.f.2.1)));refine ⟨_,_,?_,⟨k+1,ze,zf,tl++[((ineg ((xs.getD k 0)*q).num,qS za ((lim (iabs ((xs.getD k 0)*q).num)).length) zb,qS zc ((lim ((xs.getD k 0)*q).den).length) zd):RT)],zm,rfl,rfl,hs.to _ _,oM⟩,ka.to _ kR⟩
 omega
theorem rPlus (A:Option Addr)(cA:Nat)(xs:List Rat)(ta:List RT)(D:Option Addr)(cD:Nat)(ys:List Rat)(tb_:List RT)(K L:Nat)(hK:3*K+3*L+10≤100000000)(hn:xs.length≤2)(ha:∀ j,LQ K (xs.getD j 0))(hb:∀ j,LQ L (ys.getD j 0))(hlab:xs.length≤ys.length)(w:World)(h:Hp)(g:G w h)(hA:Sr A ta h)(hTa:RTs h ta xs)(hD:Sr D tb_ h)(hTb:RTs h tb_ ys):CR 125 #[.slice A ta.length cA,.slice D tb_.length cD] w h (fun v h1=>∃ A c ts,v=.slice A (ts:List RT).length c∧ts.length≤c∧Sr A ts h1∧RTs h1 ts ((List.range xs.length).map fun i=>xs.getD i 0+ys.getD i 0)):=by
 have hs:=(((((sS g).aS hA).aT hTa).aS hD).aT hTb);have hla:=(hs.f.r.1).len;have hlb:=(hs.f.1).len;refine go Tryz.func125 [(0,qS A ta.length cA),(1,qS D tb_.length cD)] rfl (cSL (lL hs [.v 4 (sZ)] (lNS (lL hs [.v 5 (sZ)] (lN (cQ (cSL (lL hs [.v 6 (iV 0)] (lN (kZ ?_))))))))));replace hs:=hs.nil 97 3;refine cTo [(0,qS A ta.length cA),(1,qS D tb_.length cD),(4,sZ),(6,iV 0),(5,sZ)] ?_;replace hs:=hs.aT (RTs.nil);refine CG.loop (fun μ_ Γ w_=>∃ (k:Nat) (sA:Option Addr) (sc:Nat) (tl:List RT) (h_:Hp),μ_=xs.length-k∧Γ=[(0,qS A ta.length cA),(1,qS D tb_.length cD),(4,sZ),(6,nV k),(5,qS sA ((tl).length) sc)]∧SS w h w_ h_ [] [⟨97,3,sA,sc,(tl).length,(tl).flatMap rqc⟩] [Rt tl ((List.range k).map fun i=>xs.getD i 0+ys.getD i 0),Rt tb_ ys,Sr D tb_,Rt ta xs,Sr A ta]∧k≤xs.length) _ ⟨0,none,0,[],h,rfl,rfl,hs.to _ _,Nat.zero_le _⟩ ?_;rintro _ _ w1 ⟨k,sA,sc,tl,h2,hm3,rfl,hs,hk⟩;have hlT:=(hs.f.1).len;rw[List.length_map,List.length_range] at hlT
 refine cQ (cSL (lL hs [.m 7 6,.m 8 0,.v 9 (nV ta.length)] ?_));cases hb4:(decide ((k:Int)<(ta.length:Int)))
 ·
  have phb4:=oF hb4;refine lB 10 hb4 (lN (cIF (CG.exit ?_)))
  show CG _ _ _ _ _ _ _ _
  refine cSL (lL hs [.m 25 5,.m 4 25] (lN (kX ?_)));obtain ⟨h5,hs,hc6⟩:=hs.pubr 0 (A:=sA) (c:=sc) (l:=tl) (f:=rqc) (ty:=97) (sz:=3) rqd (fun _=>rfl);exact hs.ret [] (qS sA ((tl).length) sc) (by rw[show xs.length=k by omega];exact ⟨_,_,tl,rfl,hc6,hs.f.1,hs.f.2.1⟩)
 have phb4:=oT hb4;refine lB 10 hb4 (lN (cIT (cK (cQ (kZ (CG.region ⟨((Value.slice sA ((tl).length) sc).ownBlock.toList),none⟩ 12 [] mixed kR hs.g al_nil (hs.ro_lt 0 (ty:=97) (sz:=3) (A:=sA) (c:=sc) (m:=(tl).length) (cs:=(tl).flatMap rqc)) ?_))))));refine eV 0 13 (qS sA ((tl).length) sc) (eV 1 14 (qS A ta.length cA) (eV 2 15 (nV k) (eX 3 16 A ta.length cA 3 (k:Nat) k ((hs.f.q.1).ok oM) ?_)));obtain ⟨Ax,cx,Dx,dx,ex,hcx,hdx,hAx,hDx⟩:=(hs.f.r.2.1).at_ k oM;replace hs:=hs.aP hAx hDx;refine eHe 4 17 (rA (ta.getD k rqd)) hs ((hs.f.q.r.1).el k oM) ex ?_ (hM:=hs.ro_jk 0 (ty:=97) (sz:=3) (A:=sA) (c:=sc) (m:=(tl).length) (cs:=(tl).flatMap rqc));refine eV 5 18 (qS D tb_.length cD) (eV 6 19 (nV k) (eX 7 20 D tb_.length cD 3 (k:Nat) k ((hs.f.q.1).ok oM) ?_));obtain ⟨Ay,cy,Dy,dy,ey,hcy,hdy,hAy,hDy⟩:=(hs.f.r.2.1).at_ k oM;replace hs:=hs.aP hAy hDy;refine eHe 8 21 (rA (tb_.getD k rqd)) hs ((hs.f.q.r.1).el k oM) ey ?_ (hM:=hs.ro_jk 0 (ty:=97) (sz:=3) (A:=sA) (c:=sc) (m:=(tl).length) (cs:=(tl).flatMap rqc));have hq8:=LQ.add (ha k) (hb k);refine eC 9 22 hs (fun _ _ hs=>rAdd (xs.getD k 0) Ax cx Dx dx hcx hdx (nl (ha k)) (nD (ha k)) (ys.getD k 0) Ay cy Dy dy hcy hdy (nl (hb k)) (nD (hb k)) _ _ hs.g hs.f.r.2.1 hs.f.r.1 hs.f.2.1 hs.f.1) ?_;rintro _ _ _ _ _ hs ⟨A9,za,zb,zc,rfl,zf,zg,zi,zj⟩;replace hs:=hs.aP zi zj;refine eR 10 23 97 1 (rqx ((xs.getD k 0)+(ys.getD k 0)) A9 za zb zc) hs (fun zk _ _ hs=>eY 11 24 0 97 3 sc sA tl rqc ((ineg ((xs.getD k 0)+(ys.getD k 0)).num,qS A9 ((lim (iabs ((xs.getD k 0)+(ys.getD k 0)).num)).length) za,qS zb ((lim ((xs.getD k 0)+(ys.getD k 0)).den).length) zc):RT) 56 zk (.agg #[qF,sZ,sZ]) hs (fun _ f_=>f_.1) (fun b hb=>Option.mem_toList.2 hb) (fun zd ze _ _ hs=>eD0 hs (fun _ zl hs=>tV 12 5 (qS zd ((tl++[((ineg ((xs.getD k 0)+(ys.getD k 0)).num,qS A9 ((lim (iabs ((xs.getD k 0)+(ys.getD k 0)).num)).length) za,qS zb ((lim ((xs.getD k 0)+(ys.getD k 0)).den).length) zc):RT)]).length) ze) (tN (kQ (lL hs [.m 11 6] (lIn 12 ((k:Nat)+1) (k+1) ?_)))))));refine lL hs [.m 6 12] (lD ?_);intro a_ ka;replace hs:=(hs.tl.tl.tl.tl.tl.tl.tl.tl.add (K:=Rt (tl++[((ineg ((xs.getD k 0)+(ys.getD k 0)).num,qS A9 ((lim (iabs ((xs.getD k 0)+(ys.getD k 0)).num)).length) za,qS zb ((lim ((xs.getD k 0)+(ys.getD k 0)).den).length) zc):RT)]) ((List.range (k+1)).map fun i=>xs.getD i 0+ys.getD i 0)) (by rw[List.range_succ,List.map_append];exact (hs.f.q.r.2.1).snoc (rqOk zf zg hs.f.r.1 hs.f.2.1)));refine ⟨_,_,?_,⟨k+1,zd,ze,tl++[((ineg ((xs.getD k 0)+(ys.getD k 0)).num,qS A9 ((lim (iabs ((xs.getD k 0)+(ys.getD k 0)).num)).length) za,qS zb ((lim ((xs.getD k 0)+(ys.getD k 0)).den).length) zc):RT)],zl,rfl,rfl,hs.to _ _,oM⟩,ka.to _ kR⟩
 omega
theorem rProduct (A:Option Addr)(cA:Nat)(xs:List Rat)(ta:List RT)(D:Option Addr)(cD:Nat)(ys:List Rat)(tb_:List RT)(K L:Nat)(hK:3*K+3*L+10≤100000000)(hn:xs.length≤2)(ha:∀ j,LQ K (xs.getD j 0))(hb:∀ j,LQ L (ys.getD j 0))(hlab:xs.length≤ys.length)(w:World)(h:Hp)(g:G w h)(hA:Sr A ta h)(hTa:RTs h ta xs)(hD:Sr D tb_ h)(hTb:RTs h tb_ ys):CR 127 #[.slice A ta.length cA,.slice D tb_.length cD] w h (fun v h1=>∃ A c ts,v=.slice A (ts:List RT).length c∧ts.length≤c∧Sr A ts h1∧RTs h1 ts ((List.range xs.length).map fun i=>psum xs ys i (i+1))):=by
 have hs:=(((((sS g).aS hA).aT hTa).aS hD).aT hTb);have hla:=(hs.f.r.1).len;have hlb:=(hs.f.1).len;refine go Tryz.func127 [(0,qS A ta.length cA),(1,qS D tb_.length cD)] rfl (cSL (lL hs [.v 4 (sZ)] (lNS (lL hs [.v 5 (sZ)] (lN (cQ (cSL (lL hs [.v 6 (iV 0)] (lN (kZ ?_))))))))));replace hs:=hs.nil 97 3;refine cTo [(0,qS A ta.length cA),(1,qS D tb_.length cD),(4,sZ),(6,iV 0),(5,sZ)] ?_;replace hs:=hs.aT (RTs.nil);refine CG.loop (fun μ_ Γ w_=>∃ (k:Nat) (sA:Option Addr) (sc:Nat) (tl:List RT) (h_:Hp),μ_=xs.length-k∧Γ=[(0,qS A ta.length cA),(1,qS D tb_.length cD),(4,sZ),(6,nV k),(5,qS sA ((tl).length) sc)]∧SS w h w_ h_ [] [⟨97,3,sA,sc,(tl).length,(tl).flatMap rqc⟩] [Rt tl ((List.range k).map fun i=>psum xs ys i (i+1)),Rt tb_ ys,Sr D tb_,Rt ta xs,Sr A ta]∧k≤xs.length) _ ⟨0,none,0,[],h,rfl,rfl,hs.to _ _,Nat.zero_le _⟩ ?_;rintro _ _ w1 ⟨k,sA,sc,tl,h2,hm3,rfl,hs,hk⟩;have hlT:=(hs.f.1).len;rw[List.length_map,List.length_range] at hlT
 refine cQ (cSL (lL hs [.m 9 6,.m 10 0,.v 11 (nV ta.length)] ?_));cases hb4:(decide ((k:Int)<(ta.length:Int)))
 ·
  have phb4:=oF hb4;refine lB 12 hb4 (lN (cIF (CG.exit ?_)))
  show CG _ _ _ _ _ _ _ _
  refine cSL (lL hs [.m 38 5,.m 4 38] (lN (kX ?_)));obtain ⟨h5,hs,hc6⟩:=hs.pubr 0 (A:=sA) (c:=sc) (l:=tl) (f:=rqc) (ty:=97) (sz:=3) rqd (fun _=>rfl);exact hs.ret [] (qS sA ((tl).length) sc) (by rw[show xs.length=k by omega];exact ⟨_,_,tl,rfl,hc6,hs.f.1,hs.f.2.1⟩)
 have phb4:=oT hb4;refine lB 12 hb4 (lN (cIT (cK (cQ (kZ (cSL (lC 15 hs (rOf 0 oM oM _ _ hs.g) ?_)))))));rintro _ _ _ hs ⟨A8,c9,zc,ze,rfl,zl,zm,zn,zo⟩;replace hs:=hs.aP zn zo;refine lA 7 97 ([qF,sZ,sZ]) hs (fun zf _ zx hs=>lP 0 0 (rqx ((0:Int):Rat) A8 c9 zc ze) hs (fun _ hs=>lN (cQ (cSL (lL hs [.v 8 (iV 0)] (lN (kZ ?_)))))));replace hs:=hs.aS hs.f.1;replace hs:=hs.aS hs.f.r.1;refine cTo _ (CG.loop (fun μ_ Γ w_=>∃ (j:Nat) (AS:Option Addr) (cS:Nat) (DS:Option Addr) (dS:Nat) (h_:Hp),μ_=k+1-j∧Γ=[(0,qS A ta.length cA),(1,qS D tb_.length cD),(4,sZ),(6,nV k),(5,qS sA ((tl).length) sc),(7,pB zf),(8,nV j)]∧SS w h w_ h_ [⟨zf,97,rqx (psum xs ys k j) AS cS DS dS⟩] [⟨97,3,sA,sc,(tl).length,(tl).flatMap rqc⟩] [S3 AS (lim (iabs (psum xs ys k j).num)),S3 DS (lim (psum xs ys k j).den),S3 zc (lim ((0:Int):Rat).den),S3 A8 (lim (iabs ((0:Int):Rat).num)),Rt tl ((List.range k).map fun i=>psum xs ys i (i+1)),Rt tb_ ys,Sr D tb_,Rt ta xs,Sr A ta]∧j≤k+1∧(lim (iabs (psum xs ys k j).num)).length≤cS∧(lim (psum xs ys k j).den).length≤dS) _ ⟨0,A8,c9,zc,ze,zx,rfl,rfl,hs.to _ _,Nat.zero_le _,zl,zm⟩ ?_);rintro _ _ _ ⟨j,AS,cS,DS,dS,_,hm24,rfl,hs,hj,hcS,hdS⟩;have hjk:j*(K+L+1)≤2*(K+L+1):=Nat.mul_le_mul_right _ oM;have hps:LQ (2*K+2*L+4) (psum xs ys k j):=(psum_lq ha hb j).mono oM;refine cQ (cSL (lL hs [.m 16 8,.m 17 6] ?_));cases za:(decide ((j:Int)≤(k:Int)))
 ·
  have zd:=oF za;refine lB 18 za (lN (cIF (CG.exit ?_)))
  show CG _ _ _ _ _ _ _ _
  refine kQ (lL hs [.m 34 5,.o 35 (rG (psum xs ys k j) AS cS DS dS) 0 0 3] (lR 36 97 1 (rqx (psum xs ys k j) AS cS DS dS) hs (fun zA _ _ hs=>lY 37 0 97 3 sc sA tl rqc ((ineg (psum xs ys k j).num,qS AS ((lim (iabs (psum xs ys k j).num)).length) cS,qS DS ((lim (psum xs ys k j).den).length) dS):RT) 56 zA (.agg #[qF,sZ,sZ]) hs hs.f.1 (fun zB zD _ zE hs=>lL hs [.m 5 37] (lN (kQ (lL hs [.m 13 6] (lIn 14 ((k:Nat)+1) (k+1) ?_))))))));refine lL hs [.m 6 14] (lD ?_);intro a_ ka;replace hs:=(hs.tl.tl.tl.tl.tl.tl.add (K:=Rt (tl++[((ineg (psum xs ys k j).num,qS AS ((lim (iabs (psum xs ys k j).num)).length) cS,qS DS ((lim (psum xs ys k j).den).length) dS):RT)]) ((List.range (k+1)).map fun i=>psum xs ys i (i+1))) (by rw[List.range_succ,List.map_append];exact (hs.f.q.2.1).snoc (by show RQ _ _ (psum xs ys k (k+1));rw[show k+1=j by omega];exact ⟨_,_,_,_,rfl,hcS,hdS,hs.f.2.1,hs.f.r.1⟩)));replace hs:=hs.drop 1 0;refine ⟨_,_,?_,⟨k+1,zB,zD,tl++[((ineg (psum xs ys k j).num,qS AS ((lim (iabs (psum xs ys k j).num)).length) cS,qS DS ((lim (psum xs ys k j).den).length) dS):RT)],zE,rfl,rfl,hs.to _ _,oM⟩,ka.to _ kR⟩
  omega
 have zd:=oT za;refine lB 18 za (lN (cIT (cK (cQ (kZ (cR 13 [] mixed hs al_nil ?_))))));refine eO 0 21 [(0,0,3)] (rG (psum xs ys k j) AS cS DS dS) hs (eV 1 22 (qS A ta.length cA) (eV 2 23 (nV j) (eX 3 24 A ta.length cA 3 (j:Nat) j ((hs.f.q.q.1).ok oM) ?_)));obtain ⟨Ax,cx,Dx,dx,ex,hcx,hdx,hAx,hDx⟩:=(hs.f.q.r.2.1).at_ j oM;replace hs:=hs.aP hAx hDx;refine eHe 4 25 (rA (ta.getD j rqd)) hs ((hs.f.q.q.r.1).el j oM) ex (eV 5 26 (qS D tb_.length cD) (eV 6 27 (nV k) (eV 7 28 (nV j) (eIn 8 29 ((k:Nat)-(j:Nat)) (k-j) (eX 9 30 D tb_.length cD 3 (k-j:Nat) (k-j) ((hs.f.q.q.1).ok oM) ?_)))));obtain ⟨Ay,cy,Dy,dy,ey,hcy,hdy,hAy,hDy⟩:=(hs.f.q.r.2.1).at_ (k-j) oM;replace hs:=hs.aP hAy hDy;refine eHe 10 31 (rA (tb_.getD (k-j) rqd)) hs ((hs.f.q.q.r.1).el (k-j) oM) ey ?_;have zb:=LQ.mul (ha j) (hb (k-j));refine eC 11 32 hs (fun _ _ hs=>rMul (xs.getD j 0) Ax cx Dx dx hcx hdx (nl (ha j)) (nD (ha j)) (ys.getD (k-j) 0) Ay cy Dy dy hcy hdy (nl (hb (k-j))) (nD (hb (k-j))) _ _ hs.g hs.f.r.2.1 hs.f.r.1 hs.f.2.1 hs.f.1) ?_;rintro _ _ _ _ _ hs ⟨zF,zG,zH,zI,rfl,zp,zq,zr,zs⟩;replace hs:=hs.aP zr zs;have hq48:=LQ.add hps zb;refine eC 12 33 hs (fun _ _ hs=>rAdd (psum xs ys k j) AS cS DS dS hcS hdS (nl hps) (nD hps) ((xs.getD j 0)*(ys.getD (k-j) 0)) zF zG zH zI zp zq (nl zb) (nD zb) _ _ hs.g hs.f.q.r.1 hs.f.q.r.2.1 hs.f.2.1 hs.f.1) ?_;rintro _ _ _ _ _ hs ⟨zg,zi,zj,zk,rfl,zt,zu,zv,zw⟩;replace hs:=hs.aP zv zw;refine eD0 hs (fun _ zJ hs=>tP 13 0 0 (rqx ((psum xs ys k j)+((xs.getD j 0)*(ys.getD (k-j) 0))) zg zi zj zk) hs (fun _ hs=>tN (kQ (lL hs [.m 19 8] (lIn 20 ((j:Nat)+1) (j+1) ?_)))));refine lL hs [.m 8 20] (lD ?_);intro a_ ka;replace hs:=((hs.tl.tl.tl.tl.tl.tl.tl.tl.tl.tl.aS hs.f.1).aS hs.f.2.1);refine ⟨_,_,?_,⟨j+1,zg,zi,zj,zk,zJ,rfl,rfl,hs.to _ _,oM,zt,zu⟩,ka.to _ kR⟩
 omega
theorem rQuotient (A:Option Addr)(cA:Nat)(xs:List Rat)(ta:List RT)(D:Option Addr)(cD:Nat)(ys:List Rat)(tb_:List RT)(K L:Nat)(hK1:1≤K)(hK:4*K+4*L+20≤100000000)(hn:xs.length≤2)(ha:∀ j,LQ K (xs.getD j 0))(hb:∀ j,LQ L (ys.getD j 0))(hlab:xs.length≤ys.length)(hb0:ys.getD 0 0≠0)(w:World)(h:Hp)(g:G w h)(hA:Sr A ta h)(hTa:RTs h ta xs)(hD:Sr D tb_ h)(hTb:RTs h tb_ ys):CR 128 #[.slice A ta.length cA,.slice D tb_.length cD] w h (fun v h1=>∃ A c ts,v=.slice A (ts:List RT).length c∧ts.length≤c∧Sr A ts h1∧RTs h1 ts (qser xs ys xs.length)):=by
 have hs:=(((((sS g).aS hA).aT hTa).aS hD).aT hTb);have hla:=(hs.f.r.1).len;have hlb:=(hs.f.1).len;have hbn:=num_nz hb0;refine go Tryz.func128 [(0,qS A ta.length cA),(1,qS D tb_.length cD)] rfl (cSL (lL hs [.v 4 (sZ)] (lNS (lL hs [.v 5 (sZ)] (lN (cQ (cSL (lL hs [.v 6 (iV 0)] (lN (kZ ?_))))))))));replace hs:=hs.nil 97 3;refine cTo [(0,qS A ta.length cA),(1,qS D tb_.length cD),(4,sZ),(6,iV 0),(5,sZ)] ?_;replace hs:=hs.aT (RTs.nil);refine CG.loop (fun μ_ Γ w_=>∃ (k:Nat) (sA:Option Addr) (sc:Nat) (tl:List RT) (h_:Hp),μ_=xs.length-k∧Γ=[(0,qS A ta.length cA),(1,qS D tb_.length cD),(4,sZ),(6,nV k),(5,qS sA ((tl).length) sc)]∧SS w h w_ h_ [] [⟨97,3,sA,sc,(tl).length,(tl).flatMap rqc⟩] [Rt tl (qser xs ys k),Rt tb_ ys,Sr D tb_,Rt ta xs,Sr A ta]∧k≤xs.length) _ ⟨0,none,0,[],h,rfl,rfl,hs.to _ _,Nat.zero_le _⟩ ?_;rintro _ _ w1 ⟨k,sA,sc,tl,h2,hm3,rfl,hs,hk⟩;have hlT:=(hs.f.1).len;rw[qser_len] at hlT
 have hql:=fun h0:k≤1=>qser_lq (k:=k) h0 hK1 ha hb
 refine cQ (cSL (lL hs [.m 9 6,.m 10 0,.v 11 (nV ta.length)] ?_));cases hb4:(decide ((k:Int)<(ta.length:Int)))
 ·
  have phb4:=oF hb4;refine lB 12 hb4 (lN (cIF (CG.exit ?_)))
  show CG _ _ _ _ _ _ _ _
  refine cSL (lL hs [.m 45 5,.m 4 45] (lN (kX ?_)));obtain ⟨h5,hs,hc6⟩:=hs.pubr 0 (A:=sA) (c:=sc) (l:=tl) (f:=rqc) (ty:=97) (sz:=3) rqd (fun _=>rfl);exact hs.ret [] (qS sA ((tl).length) sc) (by rw[show xs.length=k by omega];exact ⟨_,_,tl,rfl,hc6,hs.f.1,hs.f.2.1⟩)
 have phb4:=oT hb4;refine lB 12 hb4 (lN (cIT (cK (cQ (kZ (cSL (lL hs [.m 15 0,.m 16 6] (lX 17 A ta.length cA 3 (k:Nat) k ((hs.f.q.1).ok oM) ?_))))))));obtain ⟨Ax,cx,Dx,dx,ex,hcx,hdx,hAx,hDx⟩:=(hs.f.r.2.1).at_ k oM;replace hs:=hs.aP hAx hDx;refine lHe 18 (rA (ta.getD k rqd)) hs ((hs.f.q.r.1).el k oM) ex (lA 7 97 ([qF,sZ,sZ]) hs (fun b8 w9 zF hs=>lP 0 0 (rqx (xs.getD k 0) Ax cx Dx dx) hs (fun _ hs=>lN (cQ (cSL (lL hs [.v 8 (iV 0)] (lN (kZ ?_))))))));replace hs:=hs.aS hs.f.1;replace hs:=hs.aS hs.f.r.1;replace hs:=hs.aT (hs.f.q.1);refine cTo _ (CG.loop (fun μ_ Γ w_=>∃ (j:Nat) (s2A:Option Addr) (s2c:Nat) (t2:List RT) (AS:Option Addr) (cS:Nat) (DS:Option Addr) (dS:Nat) (h_:Hp),μ_=k-j∧Γ=[(0,qS A ta.length cA),(1,qS D tb_.length cD),(4,sZ),(6,nV k),(5,qS s2A ((t2).length) s2c),(7,pB b8),(8,nV j)]∧SS w h w_ h_ [⟨b8,97,rqx (qrem xs ys (qser xs ys k) k j) AS cS DS dS⟩] [⟨97,3,s2A,s2c,(t2).length,(t2).flatMap rqc⟩] [Rt t2 (qser xs ys k),S3 AS (lim (iabs (qrem xs ys (qser xs ys k) k j).num)),S3 DS (lim (qrem xs ys (qser xs ys k) k j).den),S3 Dx (lim (xs.getD k 0).den),S3 Ax (lim (iabs (xs.getD k 0).num)),Rt tl (qser xs ys k),Rt tb_ ys,Sr D tb_,Rt ta xs,Sr A ta]∧j≤k∧(lim (iabs (qrem xs ys (qser xs ys k) k j).num)).length≤cS∧(lim (qrem xs ys (qser xs ys k) k j).den).length≤dS) _ ⟨0,sA,sc,tl,Ax,cx,Dx,dx,zF,rfl,rfl,hs.to _ _,Nat.zero_le _,hcx,hdx⟩ ?_);rintro _ _ _ ⟨j,s2A,s2c,t2,AS,cS,DS,dS,_,hm14,rfl,hs,hj,hcS,hdS⟩;have hlT2:=(hs.f.1).len;rw[qser_len] at hlT2
 have hqr:LQ (2*K+2*L+2) (qrem xs ys (qser xs ys k) k j):=qrem_lq ha hb (hql oM) oM j oM;refine cQ (cSL (lL hs [.m 19 8,.m 20 6] ?_));cases za:(decide ((j:Int)<(k:Int)))
 ·
  have zi:=oF za;refine lB 21 za (lN (cIF (CG.exit ?_)))
  show CG _ _ _ _ _ _ _ _
  refine CG.region ⟨((Value.slice s2A ((t2).length) s2c).ownBlock.toList),none⟩ 8 [] mixed kR hs.g al_nil (hs.ro_lt 0 (ty:=97) (sz:=3) (A:=s2A) (c:=s2c) (m:=(t2).length) (cs:=(t2).flatMap rqc)) (eV 0 37 (qS s2A ((t2).length) s2c) (eO 1 38 [(0,0,3)] (rG (qrem xs ys (qser xs ys k) k j) AS cS DS dS) hs ?_ (hM:=fun p hp=>by obtain rfl:=List.mem_singleton.1 hp;exact hs.ro_ne 0 0 (ty:=97) (sz:=3) (A:=s2A) (c:=s2c) (m:=(t2).length) (cs:=(t2).flatMap rqc))));refine eV 2 39 (qS D tb_.length cD) (eX 3 40 D tb_.length cD 3 0 0 ((hs.f.q.r.2.1).ok oM) ?_);obtain ⟨Az,cz,Dz,dz,ez,hcz,hdz,hAz,hDz⟩:=(hs.f.q.r.1).at_ 0 oM;replace hs:=hs.aP hAz hDz;refine eHe 4 41 (rA (tb_.getD 0 rqd)) hs ((hs.f.q.q.2.1).el 0 oM) ez ?_ (hM:=hs.ro_jk 0 (ty:=97) (sz:=3) (A:=s2A) (c:=s2c) (m:=(t2).length) (cs:=(t2).flatMap rqc));have hq16:=LQ.div hqr (hb 0);refine eC 5 42 hs (fun _ _ hs=>rDiv (qrem xs ys (qser xs ys k) k j) AS cS DS dS hcS hdS (nl hqr) (nD hqr) (ys.getD 0 0) Az cz Dz dz hcz hdz (nl (hb 0)) (nD (hb 0)) hbn _ _ hs.g hs.f.r.2.1 hs.f.q.1 hs.f.2.1 hs.f.1) ?_;rintro _ _ _ _ _ hs ⟨zb,zc,zd,ze,rfl,zq,zr,zs,zt⟩;replace hs:=hs.aP zs zt;refine eR 6 43 97 1 (rqx ((qrem xs ys (qser xs ys k) k j)/(ys.getD 0 0)) zb zc zd ze) hs (fun zG _ _ hs=>eY 7 44 0 97 3 s2c s2A t2 rqc ((ineg ((qrem xs ys (qser xs ys k) k j)/(ys.getD 0 0)).num,qS zb ((lim (iabs ((qrem xs ys (qser xs ys k) k j)/(ys.getD 0 0)).num)).length) zc,qS zd ((lim ((qrem xs ys (qser xs ys k) k j)/(ys.getD 0 0)).den).length) ze):RT) 56 zG (.agg #[qF,sZ,sZ]) hs (fun _ f_=>f_.1) (fun b hb=>Option.mem_toList.2 hb) (fun zk zl _ _ hs=>eD0 hs (fun _ zH hs=>tV 8 5 (qS zk ((t2++[((ineg ((qrem xs ys (qser xs ys k) k j)/(ys.getD 0 0)).num,qS zb ((lim (iabs ((qrem xs ys (qser xs ys k) k j)/(ys.getD 0 0)).num)).length) zc,qS zd ((lim ((qrem xs ys (qser xs ys k) k j)/(ys.getD 0 0)).den).length) ze):RT)]).length) zl) (tN (kQ (lL hs [.m 13 6] (lIn 14 ((k:Nat)+1) (k+1) ?_)))))));refine lL hs [.m 6 14] (lD ?_);intro a_ ka;replace hs:=(hs.tl.tl.tl.tl.tl.tl.tl.tl.tl.tl.tl.add (K:=Rt (t2++[((ineg ((qrem xs ys (qser xs ys k) k j)/(ys.getD 0 0)).num,qS zb ((lim (iabs ((qrem xs ys (qser xs ys k) k j)/(ys.getD 0 0)).num)).length) zc,qS zd ((lim ((qrem xs ys (qser xs ys k) k j)/(ys.getD 0 0)).den).length) ze):RT)]) (qser xs ys (k+1))) ((hs.f.q.2.1).snoc (RQ.eq (rqOk zq zr hs.f.r.1 hs.f.2.1) (by rw[show j=k by omega]))));replace hs:=hs.drop 1 0;refine ⟨_,_,?_,⟨k+1,zk,zl,t2++[((ineg ((qrem xs ys (qser xs ys k) k j)/(ys.getD 0 0)).num,qS zb ((lim (iabs ((qrem xs ys (qser xs ys k) k j)/(ys.getD 0 0)).num)).length) zc,qS zd ((lim ((qrem xs ys (qser xs ys k) k j)/(ys.getD 0 0)).den).length) ze):RT)],zH,rfl,rfl,hs.to _ _,oM⟩,ka.to _ kR⟩
  omega
 have zi:=oT za;refine lB 21 za (lN (cIT (cK (cQ (kZ (cR 13 [] mixed hs al_nil ?_))))));refine eO 0 24 [(0,0,3)] (rG (qrem xs ys (qser xs ys k) k j) AS cS DS dS) hs (eV 1 25 (qS s2A ((t2).length) s2c) (eV 2 26 (nV j) ?_));obtain ⟨zf,zj⟩:=hs.rowA 0 (A:=s2A) (c:=s2c) (m:=(t2).length) (ty:=97) (sz:=3) (cs:=(t2).flatMap rqc) oM;subst zj;refine eX 3 27 (sB zf) ((t2).length) s2c 3 (j:Nat) j rfl ?_;obtain ⟨Av,cv,Dv,dv,ev,hcv,hdv,hAv,hDv⟩:=(hs.f.1).at_ j (by rw[qser_len];omega);replace hs:=hs.aP hAv hDv;refine eRq (ty:=97) (sz:=3) (c:=s2c) (m:=(t2).length) (b:=zf) (cs:=(t2).flatMap rqc) 4 28 0 (rG ((qser xs ys k).getD j 0) Av cv Dv dv) (rqx ((qser xs ys k).getD j 0) Av cv Dv dv) hs ((row_el (f:=rqc) (sz:=3) (fun _=>rfl) rqd t2 j oM).trans (rtv_cells ev)) (eV 5 29 (qS D tb_.length cD) (eV 6 30 (nV k) (eV 7 31 (nV j) (eIn 8 32 ((k:Nat)-(j:Nat)) (k-j) (eX 9 33 D tb_.length cD 3 (k-j:Nat) (k-j) ((hs.f.q.q.2.1).ok oM) ?_)))));obtain ⟨Ay,cy,Dy,dy,ey,hcy,hdy,hAy,hDy⟩:=(hs.f.q.q.1).at_ (k-j) oM;replace hs:=hs.aP hAy hDy;refine eHe 10 34 (rA (tb_.getD (k-j) rqd)) hs ((hs.f.q.q.r.2.1).el (k-j) oM) ey ?_;have zg:=LQ.mul (hql oM j) (hb (k-j));refine eC 11 35 hs (fun _ _ hs=>rMul ((qser xs ys k).getD j 0) Av cv Dv dv hcv hdv (nl (hql oM j)) (nD (hql oM j)) (ys.getD (k-j) 0) Ay cy Dy dy hcy hdy (nl (hb (k-j))) (nD (hb (k-j))) _ _ hs.g hs.f.r.2.1 hs.f.r.1 hs.f.2.1 hs.f.1) ?_;rintro _ _ _ _ _ hs ⟨zI,zJ,zK,zL,rfl,zu,zv,zw,zx⟩;replace hs:=hs.aP zw zx;have hq53:=LQ.sub hqr zg;refine eC 12 36 hs (fun _ _ hs=>rSub (qrem xs ys (qser xs ys k) k j) AS cS DS dS hcS hdS (nl hqr) (nD hqr) (((qser xs ys k).getD j 0)*(ys.getD (k-j) 0)) zI zJ zK zL zu zv (nl zg) (nD zg) _ _ hs.g hs.f.q.r.2.1 hs.f.q.q.1 hs.f.2.1 hs.f.1) ?_;rintro _ _ _ _ _ hs ⟨zm,zn,zo,zp,rfl,zA,zB,zD,zE⟩;replace hs:=hs.aP zD zE;refine eD0 hs (fun _ zM hs=>tP 13 0 0 (rqx ((qrem xs ys (qser xs ys k) k j)-(((qser xs ys k).getD j 0)*(ys.getD (k-j) 0))) zm zn zo zp) hs (fun _ hs=>tN (kQ (lL hs [.m 22 8] (lIn 23 ((j:Nat)+1) (j+1) ?_)))));refine lL hs [.m 8 23] (lD ?_);intro a_ ka;replace hs:=(((hs.tl.tl.tl.tl.tl.tl.tl.tl.tl.tl.tl.aS hs.f.1).aS hs.f.2.1).aT hs.f.q.q.1);refine ⟨_,_,?_,⟨j+1,sB zf,s2c,t2,zm,zn,zo,zp,zM,rfl,rfl,hs.to _ _,oM,zA,zB⟩,ka.to _ kR⟩
 omega
theorem rSeriesOf (q:Rat)(A1:Option Addr)(c1:Nat)(D1:Option Addr)(d1:Nat)(hc1:(lim (iabs q.num)).length≤c1)(hd1:(lim q.den).length≤d1)(n:Nat)(hn:n≤1000)(w:World)(h:Hp)(g:G w h)(hA1:S3 A1 (lim (iabs q.num)) h)(hD1:S3 D1 (lim q.den) h):CR 124 #[rG q A1 c1 D1 d1,nV n] w h (fun v h1=>∃ A c ts,v=.slice A (ts:List RT).length c∧ts.length≤c∧Sr A ts h1∧RTs h1 ts (q::List.replicate n ((0:Int):Rat))):=by
 have hs:=(((sS g).aS hA1).aS hD1);refine go Tryz.func124 [(0,rG q A1 c1 D1 d1),(1,nV n)] rfl (cSL (lA 2 97 (rqx q A1 c1 D1 d1) hs (fun b1 w2 h3 hs=>lL hs [.v 4 (sZ)] (lNS (lL hs [.o 6 (rG q A1 c1 D1 d1) 0 0 3] (lRw 7 97 3 rqc ([((ineg q.num,qS A1 ((lim (iabs q.num)).length) c1,qS D1 ((lim q.den).length) d1):RT)]:List RT) hs (fun b4 w5 h6 hs=>lL hs [.m 5 7] (lN (cQ (kZ ?_))))))))));replace hs:=hs.aT ((RTs.snoc RTs.nil (rqOk hc1 hd1 hs.f.2.1 hs.f.1)));refine cTo _ (CG.loop (fun μ_ Γ w_=>∃ (m:Nat) (sA:Option Addr) (sc:Nat) (tl:List RT) (h_:Hp),μ_=n-m∧Γ=[(1,nV n),(4,sZ),(5,qS sA ((tl).length) sc)]∧SS w h w_ h_ [⟨b1,97,rqx q A1 c1 D1 d1⟩] [⟨97,3,sA,sc,(tl).length,(tl).flatMap rqc⟩] [Rt tl (q::List.replicate m ((0:Int):Rat)),S3 D1 (lim q.den),S3 A1 (lim (iabs q.num))]∧m≤n) _ ⟨0,sB b4,(([((ineg q.num,qS A1 ((lim (iabs q.num)).length) c1,qS D1 ((lim q.den).length) d1):RT)]:List RT)).length,([((ineg q.num,qS A1 ((lim (iabs q.num)).length) c1,qS D1 ((lim q.den).length) d1):RT)]:List RT),h6,rfl,rfl,hs.to _ _,Nat.zero_le _⟩ ?_);rintro _ _ w9 ⟨m,sA,sc,tl,_,hm11,rfl,hs,hm⟩;have hlT:=(hs.f.1).len;rw[List.length_cons,List.length_replicate] at hlT
 refine cQ (cSL (lL hs [.m 8 5,.v 9 (nV ((tl).length)),.m 10 1] ?_));cases za:(decide ((((tl).length:Nat):Int)≤(n:Int)))
 ·
  have zf:=oF za;refine lB 11 za (lN (cIF (CG.exit ?_)))
  show CG _ _ _ _ _ _ _ _
  refine cSL (lL hs [.m 16 5,.m 4 16] (lN (kX ?_)));obtain ⟨_,hs,zg⟩:=hs.pubr 0 (A:=sA) (c:=sc) (l:=tl) (f:=rqc) (ty:=97) (sz:=3) rqd (fun _=>rfl);exact hs.ret [] (qS sA ((tl).length) sc) (by rw[show n=m by omega];exact ⟨_,_,tl,rfl,zg,hs.f.1,hs.f.2.1⟩)
 have zf:=oT za;refine lB 11 za (lN (cIT (cK (kZ (kQ (lL hs [.m 12 5] (lC 13 hs (rOf 0 oM oM _ _ hs.g) ?_)))))));rintro _ _ _ hs ⟨zb,zc,zd,ze,rfl,zi,zj,zk,zl⟩;replace hs:=hs.aP zk zl;refine lR 14 97 1 (rqx ((0:Int):Rat) zb zc zd ze) hs (fun zm _ _ hs=>lY 15 0 97 3 sc sA tl rqc ((ineg ((0:Int):Rat).num,qS zb ((lim (iabs ((0:Int):Rat).num)).length) zc,qS zd ((lim ((0:Int):Rat).den).length) ze):RT) 56 zm (.agg #[qF,sZ,sZ]) hs hs.f.1 (fun zn zo _ zp hs=>lL hs [.m 5 15] (lD ?_)));intro a_ ka;replace hs:=(hs.tl.tl.tl.tl.add (K:=Rt (tl++[((ineg ((0:Int):Rat).num,qS zb ((lim (iabs ((0:Int):Rat).num)).length) zc,qS zd ((lim ((0:Int):Rat).den).length) ze):RT)]) (q::List.replicate (m+1) ((0:Int):Rat))) (by rw[List.replicate_succ',←List.cons_append];exact (hs.f.r.2.1).snoc (rqOk zi zj hs.f.r.1 hs.f.2.1)));refine ⟨_,_,?_,⟨m+1,zn,zo,tl++[((ineg ((0:Int):Rat).num,qS zb ((lim (iabs ((0:Int):Rat).num)).length) zc,qS zd ((lim ((0:Int):Rat).den).length) ze):RT)],zp,rfl,rfl,hs.to _ _,oM⟩,ka.to _ kR⟩
 omega
def ofsE (op n:Int)(a b:Rat):Int:=if okq op n a b then (if knk op a b then 7 else 0) else 6
def serL (op n:Int)(xs ys:List Rat):List Rat:=[opv op n 0 (xs.getD 0 0) (ys.getD 0 0),sla op n (xs.getD 0 0) (ys.getD 0 0)*xs.getD 1 0+slb op (xs.getD 0 0) (ys.getD 0 0)*ys.getD 1 0]
def ofsL (op n:Int)(xs ys:List Rat):List Rat:=if ofsE op n (xs.getD 0 0) (ys.getD 0 0)=0 then serL op n xs ys else []
section
variable {op n:Int} {xs ys:List Rat}
theorem ofs_6 (h:¬okq op n (xs.getD 0 0) (ys.getD 0 0)):ofsE op n (xs.getD 0 0) (ys.getD 0 0)=6∧ofsL op n xs ys=[]:=by
  have e:ofsE op n (xs.getD 0 0) (ys.getD 0 0)=6:=if_neg h;exact ⟨e,if_neg (by rw[e];decide)⟩
theorem ofs_7 (h:okq op n (xs.getD 0 0) (ys.getD 0 0))(k:knk op (xs.getD 0 0) (ys.getD 0 0)):ofsE op n (xs.getD 0 0) (ys.getD 0 0)=7∧ofsL op n xs ys=[]:=by
  have e:ofsE op n (xs.getD 0 0) (ys.getD 0 0)=7:=(if_pos h).trans (if_pos k);exact ⟨e,if_neg (by rw[e];decide)⟩
theorem ofs_0 (h:okq op n (xs.getD 0 0) (ys.getD 0 0))(k:¬knk op (xs.getD 0 0) (ys.getD 0 0)):ofsE op n (xs.getD 0 0) (ys.getD 0 0)=0∧ofsL op n xs ys=serL op n xs ys:=by
  have e:ofsE op n (xs.getD 0 0) (ys.getD 0 0)=0:=(if_pos h).trans (if_neg k);exact ⟨e,if_pos e⟩
end
theorem two_eq {x y x' y':Rat}(h:x=x')(h2:y=y'):[x,y]=[x',y']:=by rw[h,h2]
theorem i1:((1:Int):Rat)=1:=rfl
theorem i0:((0:Int):Rat)=0:=rfl
theorem im1:((-1:Int):Rat) = -1:=rfl
theorem two_l {xs:List Rat}(h:xs.length=2):xs=[xs.getD 0 0,xs.getD 1 0]:=by
  match xs,h with
  | [a,b],_=>rfl
theorem ser_self {op n:Int}{xs ys:List Rat}(hx:xs.length=2)(h1:xs.getD 0 0=opv op n 0 (xs.getD 0 0) (ys.getD 0 0))(h2:sla op n (xs.getD 0 0) (ys.getD 0 0)=1)(h3:slb op (xs.getD 0 0) (ys.getD 0 0)=0):xs=serL op n xs ys:=by
  refine (two_l hx).trans (two_eq h1 ?_);rw[h2,h3];grind
theorem ser_other {op n:Int}{xs ys:List Rat}(hy:ys.length=2)(h1:ys.getD 0 0=opv op n 0 (xs.getD 0 0) (ys.getD 0 0))(h2:sla op n (xs.getD 0 0) (ys.getD 0 0)=0)(h3:slb op (xs.getD 0 0) (ys.getD 0 0)=1):ys=serL op n xs ys:=by
  refine (two_l hy).trans (two_eq h1 ?_);rw[h2,h3];grind
section
variable {n:Int} {xs ys:List Rat}
theorem ser_3 (hx:xs.length=2):(List.range xs.length).map (fun i=>xs.getD i 0+ys.getD i 0)=serL 3 n xs ys:=by
  rw[hx];refine two_eq rfl ?_
  show xs.getD 1 0+ys.getD 1 0=((1:Int):Rat)*xs.getD 1 0+((1:Int):Rat)*ys.getD 1 0
  rw[i1];grind
theorem ser_4 (hx:xs.length=2)(hy:ys.length=2):(List.range xs.length).map (fun i=>xs.getD i 0+((List.range ys.length).map fun i=>ys.getD i 0*((-1:Int):Rat)).getD i 0)=serL 4 n xs ys:=by
  rw[hx,hy];refine two_eq ?_ ?_
  · show xs.getD 0 0+ys.getD 0 0*((-1:Int):Rat)=xs.getD 0 0-ys.getD 0 0
    rw[im1];grind
  · show xs.getD 1 0+ys.getD 1 0*((-1:Int):Rat)=((1:Int):Rat)*xs.getD 1 0 + -((1:Int):Rat)*ys.getD 1 0
    rw[i1,im1];grind
theorem ser_5 (hx:xs.length=2):(List.range xs.length).map (fun i=>psum xs ys i (i+1))=serL 5 n xs ys:=by
  rw[hx];refine two_eq ?_ ?_
  · show ((0:Int):Rat)+xs.getD 0 0*ys.getD 0 0=xs.getD 0 0*ys.getD 0 0
    rw[i0];grind
  · show ((0:Int):Rat)+xs.getD 0 0*ys.getD 1 0+xs.getD 1 0*ys.getD 0 0=ys.getD 0 0*xs.getD 1 0+xs.getD 0 0*ys.getD 1 0
    rw[i0];grind
theorem ser_6 (hx:xs.length=2)(hb:ys.getD 0 0≠0):qser xs ys xs.length=serL 6 n xs ys:=by
  rw[hx];refine two_eq rfl ?_
  show (xs.getD 1 0-xs.getD 0 0/ys.getD 0 0*ys.getD 1 0)/ys.getD 0 0=((1:Int):Rat)/ys.getD 0 0*xs.getD 1 0 + -(xs.getD 0 0*(((1:Int):Rat)/ys.getD 0 0)*(((1:Int):Rat)/ys.getD 0 0))*ys.getD 1 0
  rw[i1];grind
theorem ser_7 (hx:xs.length=2):(List.range xs.length).map (fun i=>xs.getD i 0*((-1:Int):Rat))=serL 7 n xs ys:=by
  rw[hx];refine two_eq ?_ ?_
  · show xs.getD 0 0*((-1:Int):Rat) = -xs.getD 0 0
    rw[im1];grind
  · show xs.getD 1 0*((-1:Int):Rat) = -((1:Int):Rat)*xs.getD 1 0+0*ys.getD 1 0
    rw[i1,im1];grind
end
def pser (xs:List Rat):Nat→List Rat
  | 0=>[((1:Int):Rat),((0:Int):Rat)]
  | k+1=>(List.range (pser xs k).length).map fun i=>psum (pser xs k) xs i (i+1)
theorem pser_len (xs:List Rat):∀ k,(pser xs k).length=2
  | 0=>rfl
  | k+1=>by show ((List.range (pser xs k).length).map _).length=2;rw[List.length_map,List.length_range,pser_len xs k]
theorem pser_eq (xs:List Rat):∀ k,pser xs k=[powN (xs.getD 0 0) k,((k:Int):Rat)*powN (xs.getD 0 0) (k-1)*xs.getD 1 0]
  | 0=>two_eq rfl (by show ((0:Int):Rat)=((0:Int):Rat)*_*_;rw[i0];grind)
  | k + 1=>by
    show (List.range (pser xs k).length).map _=_
    rw[pser_len,pser_eq xs k];refine two_eq ?_ ?_
    · show ((0:Int):Rat)+powN (xs.getD 0 0) k*xs.getD 0 0=powN (xs.getD 0 0) k*xs.getD 0 0
      rw[i0];grind
    · show ((0:Int):Rat)+powN (xs.getD 0 0) k*xs.getD 1 0+((k:Int):Rat)*powN (xs.getD 0 0) (k-1)*xs.getD 1 0*xs.getD 0 0=(((k+1:Nat):Int):Rat)*powN (xs.getD 0 0) k*xs.getD 1 0
      have e:(((k+1:Nat):Int):Rat)=((k:Int):Rat)+1:=by push_cast;rfl
      have e2:((k:Int):Rat)*powN (xs.getD 0 0) (k-1)*xs.getD 0 0=((k:Int):Rat)*powN (xs.getD 0 0) k:=by
        cases k with
        | zero=>show ((0:Int):Rat)*_*_=((0:Int):Rat)*_;rw[i0];grind
        | succ k=>show _*powN _ k*_=_*(powN _ k*_);grind
      rw[i0,e];grind
theorem lq_lst {a b:Rat}{K:Nat}(hK:1≤K)(ha:LQ K a)(hb:LQ K b):∀ j,LQ K (([a,b]:List Rat).getD j 0)
  | 0=>ha
  | 1=>hb
  | j+2=>by show LQ K (([]:List Rat).getD j 0);simp;exact lq0 hK
theorem lq_map {f:Nat→Rat}{K m:Nat}(hK:1≤K)(h:∀ i,LQ K (f i))(j:Nat):LQ K (((List.range m).map f).getD j 0):=by
  by_cases hj:j<m
  · simp[hj];exact h j
  · simp[hj];exact lq0 hK
theorem lq_pser {xs:List Rat}{K D k:Nat}(hK:1≤K)(hk:k≤12)(h0:LQ K (xs.getD 0 0))(h1:LQ D (xs.getD 1 0)):∀ j,LQ (12*K+D+3) ((pser xs k).getD j 0):=by
  rw[pser_eq];have e1:k*K≤12*K:=Nat.mul_le_mul_right _ hk;have e2:(k-1)*K≤11*K:=Nat.mul_le_mul_right _ oM;exact lq_lst oM ((lq_powN h0 k).mono oM) ((((LQ.int (z:=(k:Int)) oM oM).mul (lq_powN h0 (k-1))).mul h1).mono oM)
section
variable {n:Int} {xs ys:List Rat}
theorem ser_8p {m:Nat}(hn:0≤n)(hm:(m:Int)=n):pser xs m=serL 8 n xs ys:=by
  subst hm;rw[pser_eq];refine two_eq ?_ ?_
  · show _=powq (xs.getD 0 0) m
    unfold powq;rw[if_pos oM];rfl
  · show _=(if (m:Int)=0 then (0:Rat) else powq (xs.getD 0 0) ((m:Int)-1)*(((m:Int):Int):Rat))*xs.getD 1 0+0*ys.getD 1 0
    by_cases h0:m=0
    · subst h0;rw[if_pos (show ((0:Nat):Int)=0 from rfl)];show ((0:Int):Rat)*_*_=_;rw[i0];grind
    · rw[if_neg oM]
      have e:powq (xs.getD 0 0) ((m:Int)-1)=powN (xs.getD 0 0) (m-1):=by unfold powq;rw[if_pos oM,show ((m:Int)-1).natAbs=m-1 by omega]
      rw[e];grind
theorem ser_8n {m:Nat}(hn:n<0)(hm:(m:Int) = -n)(ha:xs.getD 0 0≠0):qser [((1:Int):Rat),((0:Int):Rat)] (pser xs m) 2=serL 8 n xs ys:=by
  obtain ⟨k,rfl⟩:∃ k,m=k+1:=⟨m-1,by omega⟩;have hp:=powN_nz ha k;rw[pser_eq];refine two_eq ?_ ?_
  · show ((1:Int):Rat)/powN (xs.getD 0 0) (k+1)=powq (xs.getD 0 0) n
    unfold powq;rw[if_neg oM,show n.natAbs=k+1 by omega]
  · show (((0:Int):Rat)-((1:Int):Rat)/powN (xs.getD 0 0) (k+1)*((((k+1:Nat):Int):Rat)*powN (xs.getD 0 0) k*xs.getD 1 0))/powN (xs.getD 0 0) (k+1)=(if n=0 then (0:Rat) else powq (xs.getD 0 0) (n-1)*((n:Int):Rat))*xs.getD 1 0+0*ys.getD 1 0
    rw[if_neg oM]
    have e:powq (xs.getD 0 0) (n-1)=((1:Int):Rat)/(powN (xs.getD 0 0) k*xs.getD 0 0*xs.getD 0 0):=by
      unfold powq;rw[if_neg oM,show (n-1).natAbs=k+2 by omega];rfl
    have e2:((n:Int):Rat) = -(((k+1:Nat):Int):Rat):=by rw[hm,Rat.intCast_neg];grind
    rw[e,e2,i0,i1]
    show (0-1/(powN (xs.getD 0 0) k*xs.getD 0 0)*_)/(powN (xs.getD 0 0) k*xs.getD 0 0)=_
    grind
end
theorem rSeries1 (q:Rat)(A1:Option Addr)(c1:Nat)(D1:Option Addr)(d1:Nat)(hc1:(lim (iabs q.num)).length≤c1)(hd1:(lim q.den).length≤d1)(n:Nat)(hn:n=1)(w:World)(h:Hp)(g:G w h)(hA1:S3 A1 (lim (iabs q.num)) h)(hD1:S3 D1 (lim q.den) h):CR 124 #[rG q A1 c1 D1 d1,nV n] w h (fun v h1=>∃ A c ts,v=.slice A (ts:List RT).length c∧ts.length≤c∧Sr A ts h1∧RTs h1 ts [q,((0:Int):Rat)]):=by
  subst hn;exact rSeriesOf q A1 c1 D1 d1 hc1 hd1 1 oM w h g hA1 hD1
theorem nz_sign {q:Rat}(h:q.num.sign≠0):q≠0:=fun e=>h (by rw[e];rfl)
theorem z_sign {q:Rat}(h:q.num.sign=0):q=0:=Rat.num_eq_zero.1 (Int.sign_eq_zero_iff_zero.1 h)
section
variable {op n:Int} {a b:Rat} {xs ys:List Rat}
theorem okq_o (h:op≠6)(h2:op≠8):okq op n a b:=⟨fun e=>absurd e h,fun e=>absurd e h2⟩
theorem okq_6 (h:b≠0):okq 6 n a b:=⟨fun _=>h,fun e=>absurd e kD⟩
theorem okq_8 (h:n<0→a≠0):okq 8 n a b:=⟨fun e=>absurd e kD,fun _=>h⟩
theorem not_okq6 (h:op=6)(hs:b.num.sign=0):¬okq op n a b:=fun x=>x.1 h (z_sign hs)
theorem not_okq8 (h:op=8)(hn:n<0)(hs:a.num.sign=0):¬okq op n a b:=fun x=>x.2 h hn (z_sign hs)
theorem knk_c (h:op=12∨op=13)(hc:cmpR a b=0):knk op a b:=.inr ⟨h,cmpR_eq.1 hc⟩
theorem knk_s (h:op=9∨op=10)(hs:a.num.sign=0):knk op a b:=.inl ⟨h,z_sign hs⟩
theorem nknk (h:op≠9)(h2:op≠10)(h3:op≠12∧op≠13):¬knk op a b:=fun x=>by
  rcases x with ⟨x,_⟩|⟨x,_⟩<;>omega
theorem nknk_c (h:op=12∨op=13)(hc:cmpR a b≠0):¬knk op a b:=fun x=>by
  rcases x with ⟨x,_⟩|⟨_,y⟩
  · omega
  · exact hc (cmpR_eq.2 y)
theorem nknk_s (h:op=9∨op=10)(hs:a.num.sign≠0):¬knk op a b:=fun x=>by
  rcases x with ⟨_,y⟩|⟨x,_⟩
  · exact hs (by rw[y];rfl)
  · omega
theorem sgn_abs (a:Rat):a*((a.num.sign:Int):Rat)=qabs a:=by
  unfold qabs
  rcases Int.lt_trichotomy a.num 0 with h|h|h
  · rw[if_pos h,Int.sign_eq_neg_one_of_neg h,im1];grind
  · have e:a=0:=Rat.num_eq_zero.1 h
    subst e;rw[if_neg kD,Rat.zero_mul]
  · rw[if_neg oM,Int.sign_eq_one_of_pos h,i1];grind
theorem q11_nz (xs:List Rat){l:List Rat}(e:l.getD 0 0=((1:Int):Rat)+xs.getD 0 0*(((xs.getD 0 0).num.sign:Int):Rat)):l.getD 0 0≠0:=by
  rw[e,sgn_abs];intro h;exact one_abs_ne (xs.getD 0 0) (by rw[h];rfl)
theorem ser_9 (hx:xs.length=2):(List.range xs.length).map (fun i=>xs.getD i 0*(((xs.getD 0 0).num.sign:Int):Rat))=serL 9 n xs ys:=by
  rw[hx];refine two_eq (sgn_abs _) ?_
  show xs.getD 1 0*_=(((xs.getD 0 0).num.sign:Int):Rat)*xs.getD 1 0+0*ys.getD 1 0
  grind
theorem ser_10p (hx:xs.length=2)(hs:0<(xs.getD 0 0).num.sign):xs=serL 10 n xs ys:=by
  have h0:=sgn_pos.1 hs;refine ser_self hx ?_ ?_ rfl
  · show _=maxR (xs.getD 0 0) 0
    unfold maxR;rw[if_neg (by grind)]
  · show ((max (xs.getD 0 0).num.sign 0:Int):Rat)=1
    have:=sign_bd (xs.getD 0 0).num;rw[show max (xs.getD 0 0).num.sign 0=1 by omega];rfl
theorem ser_10n (hs:(xs.getD 0 0).num.sign<0):[((0:Int):Rat),((0:Int):Rat)]=serL 10 n xs ys:=by
  have h0:¬0<xs.getD 0 0:=fun h=>by have:=sgn_pos.2 h;omega
  refine two_eq ?_ ?_
  · show (0:Rat)=maxR (xs.getD 0 0) 0
    unfold maxR;split
    · rfl
    · grind
  · show (0:Rat)=((max (xs.getD 0 0).num.sign 0:Int):Rat)*xs.getD 1 0+0*ys.getD 1 0
    rw[show max (xs.getD 0 0).num.sign 0=0 by omega,i0];grind
theorem ser_11z (hx:xs.length=2)(hs:(xs.getD 0 0).num.sign=0):xs=serL 11 n xs ys:=by
  have h0:=z_sign hs;have hq:qabs (0:Rat)=0:=rfl;refine ser_self hx ?_ ?_ rfl
  · show _=xs.getD 0 0/(qabs (xs.getD 0 0)+((1:Int):Rat))
    rw[h0,hq,i1];grind
  · show (((1:Int):Rat)/(((1:Int):Rat)+qabs (xs.getD 0 0)))*(((1:Int):Rat)/(((1:Int):Rat)+qabs (xs.getD 0 0)))=1
    rw[h0,hq,i1];grind
theorem ser_11 (hx:xs.length=2):qser xs ((List.range [((1:Int):Rat),((0:Int):Rat)].length).map fun i=>[((1:Int):Rat),((0:Int):Rat)].getD i 0+((List.range xs.length).map fun i=>xs.getD i 0*(((xs.getD 0 0).num.sign:Int):Rat)).getD i 0) xs.length=serL 11 n xs ys:=by
  rw[hx];have e:=sgn_abs (xs.getD 0 0);have hne:((1:Int):Rat)+qabs (xs.getD 0 0)≠0:=fun h=>one_abs_ne (xs.getD 0 0) (by rw[h];rfl)
  refine two_eq ?_ ?_
  · show xs.getD 0 0/(((1:Int):Rat)+xs.getD 0 0*_)=xs.getD 0 0/(qabs (xs.getD 0 0)+((1:Int):Rat))
    rw[e,Rat.add_comm]
  · show (xs.getD 1 0-xs.getD 0 0/(((1:Int):Rat)+xs.getD 0 0*(((xs.getD 0 0).num.sign:Int):Rat))*(((0:Int):Rat)+xs.getD 1 0*(((xs.getD 0 0).num.sign:Int):Rat)))/(((1:Int):Rat)+xs.getD 0 0*(((xs.getD 0 0).num.sign:Int):Rat))=(((1:Int):Rat)/(((1:Int):Rat)+qabs (xs.getD 0 0)))*(((1:Int):Rat)/(((1:Int):Rat)+qabs (xs.getD 0 0)))*xs.getD 1 0+0*ys.getD 1 0
    rw[e];rw[i1,i0] at *
    generalize (((xs.getD 0 0).num.sign:Int):Rat)=s at *
    generalize qabs (xs.getD 0 0)=t at *
    grind
theorem ser_c1 (hx:xs.length=2)(h:op=12∧0<cmpR (xs.getD 0 0) (ys.getD 0 0)∨op=13∧¬0<cmpR (xs.getD 0 0) (ys.getD 0 0))(hc:cmpR (xs.getD 0 0) (ys.getD 0 0)≠0):xs=serL op n xs ys:=by
  rcases h with ⟨rfl,h⟩|⟨rfl,h⟩
  · have h1:=cmpR_gt.1 h
    exact ser_self hx (by show _=maxR _ _;unfold maxR;rw[if_neg (by grind)]) (if_pos h1) (if_pos h1)
  · have h1:=cmpR_lt.1 (show cmpR (xs.getD 0 0) (ys.getD 0 0)<0 by omega)
    have h2:¬ys.getD 0 0<xs.getD 0 0:=by grind
    exact ser_self hx (by show _=minR _ _;unfold minR;rw[if_neg h2]) (if_neg h2) (if_neg h2)
theorem ser_c2 (hy:ys.length=2)(h:op=13∧0<cmpR (xs.getD 0 0) (ys.getD 0 0)∨op=12∧¬0<cmpR (xs.getD 0 0) (ys.getD 0 0))(hc:cmpR (xs.getD 0 0) (ys.getD 0 0)≠0):ys=serL op n xs ys:=by
  rcases h with ⟨rfl,h⟩|⟨rfl,h⟩
  · have h1:=cmpR_gt.1 h
    exact ser_other hy (by show _=minR _ _;unfold minR;rw[if_pos h1]) (if_pos h1) (if_pos h1)
  · have h1:=cmpR_lt.1 (show cmpR (xs.getD 0 0) (ys.getD 0 0)<0 by omega)
    have h2:¬ys.getD 0 0<xs.getD 0 0:=by grind
    exact ser_other hy (by show _=maxR _ _;unfold maxR;rw[if_pos h1]) (if_neg h2) (if_neg h2)
end
theorem rOfSeries (op n:Int)(A:Option Addr)(cA:Nat)(xs:List Rat)(ta:List RT)(D:Option Addr)(cD:Nat)(ys:List Rat)(tb_:List RT)(hcA:ta.length≤cA)(hcD:tb_.length≤cD)(K D_:Nat)(hK1:1≤K)(hKD:K≤D_)(hK:60*K+10*D_+100≤100000000)(hop:3≤op∧op≤13)(hn:op=8 → -12≤n∧n≤12)(hx:xs.length=2)(hy:ys.length=2)(ha0:LQ K (xs.getD 0 0))(ha:∀ j,LQ D_ (xs.getD j 0))(hb:∀ j,LQ D_ (ys.getD j 0))(w:World)(h:Hp)(g:G w h)(hA:Sr A ta h)(hTa:RTs h ta xs)(hD:Sr D tb_ h)(hTb:RTs h tb_ ys):CR 57 #[iV op,iV n,.slice A ta.length cA,.slice D tb_.length cD,.bool true] w h (fun v h1=>∃ A c ts,v=.tuple #[.slice A (ts:List RT).length c,iV (ofsE op n (xs.getD 0 0) (ys.getD 0 0))]∧ts.length≤c∧Sr A ts h1∧RTs h1 ts (ofsL op n xs ys)):=by
 have hs:=(((((sS g).aS hA).aT hTa).aS hD).aT hTb);have hla:=(hs.f.r.1).len;have hlb:=(hs.f.1).len;have hsx:=sign_bd (xs.getD 0 0).num;have hsy:=sign_bd (ys.getD 0 0).num;refine go Tryz.func57 [(0,iV op),(1,iV n),(2,qS A ta.length cA),(3,qS D tb_.length cD),(4,qT)] rfl (cSL (lL hs [.v 10 (sZ),.v 11 (iV 0)] (lNS (lL hs [.m 18 2,.v 19 (nV ta.length)] (lIn 20 ((ta.length:Nat)-1) (ta.length-1) ?_)))));refine lL hs [.m 12 20] (lNS (lC 21 hs (rOf 1 oM oM _ _ hs.g) ?_));rintro _ w9 _ hs ⟨A1,c2,A5,c6,rfl,hc3,hc7,hA4,hA8⟩;replace hs:=hs.aP hA4 hA8;refine lL hs [.m 22 12] (lC 23 hs (rSeries1 ((1:Int):Rat) A1 c2 A5 c6 hc3 hc7 ((ta.length-1)) oM _ _ hs.g hs.f.2.1 hs.f.1) ?_);rintro _ _ YM hs ⟨zb,zc,za,rfl,zS,ZA,ZB⟩;replace hs:=((hs.aS ZA).aT ZB);refine lL hs [.m 13 23] (lN (cQ (cSL (lL hs [.m 24 0] (lN (kZ (cSL ?_)))))));cases zp:((op:Int) == (3:Int))
 ·
  have yo:=neOfBeq zp;refine lB 26 zp (lL hs [.m 25 26] (lN (cIF (cSL ?_))));cases zq:((op:Int) == (4:Int))
  ·
   have yp:=neOfBeq zq;refine lB 31 zq (lL hs [.m 30 31] (lN (cIF (cSL ?_))));cases zr:((op:Int) == (7:Int))
   ·
    have yq:=neOfBeq zr;refine lB 38 zr (lL hs [.m 37 38] (lN (cIF (cSL ?_))));cases zs:((op:Int) == (5:Int))
    ·
     have yr:=neOfBeq zs;refine lB 43 zs (lL hs [.m 42 43] (lN (cIF (cSL ?_))));cases zt:((op:Int) == (6:Int))
     ·
      have yt:=neOfBeq zt;refine lB 48 zt (lL hs [.m 47 48] (lN (cIF (cSL ?_))));cases zu:((op:Int) == (8:Int))
      ·
       have yu:=neOfBeq zu;refine lB 58 zu (lL hs [.m 57 58] (lN (cIF (cQ (cSL ?_)))));cases zv:((op:Int) == (12:Int))
       ·
        have yv:=neOfBeq zv;refine lB 87 zv (lL hs [.m 86 87] (lN (cIF (kQ ?_))));cases zw:((op:Int) == (13:Int))
        ·
         have yw:=neOfBeq zw;refine lB 88 zw (lL hs [.m 86 88] (lN (cIF (cK (cSL (lL hs [.m 107 2] (lX 108 A ta.length cA 3 0 0 ((hs.f.q.r.2.1).ok oM) ?_)))))));obtain ⟨Ax,cx,Dx,dx,ex,hcx,hdx,hAx,hDx⟩:=(hs.f.q.r.1).at_ 0 oM;replace hs:=hs.aP hAx hDx;refine lHe 109 (rA (ta.getD 0 rqd)) hs ((hs.f.q.q.2.1).el 0 oM) ex (lC 110 hs (rSign (xs.getD 0 0) Ax cx Dx dx hcx hdx (nl (ha 0)) (nD (ha 0)) _ _ hs.g hs.f.2.1 hs.f.1) ?_);rintro _ _ _ hs rfl;refine lL hs [.m 17 110] (lN (cQ (kZ (cSL (lL hs [.m 112 0] ?_)))));cases zx:((op:Int) == (11:Int))
         ·
          have yx:=neOfBeq zx;refine lB 113 zx (lL hs [.m 114 113] (lG 115 ?_));refine lG 116 (lL hs [.v 117 qF,.m 118 117] (lG 119 ?_));refine lL hs [.v 120 qF,.m 111 120] (lN (cTo [(0,iV op),(2,qS A ta.length cA),(10,sZ),(11,iV 0),(12,nV (ta.length-1)),(13,qS zb za.length zc),(17,iV ((xs.getD 0 0).num.sign)),(111,qF)] ?_));refine cIF (cSL (lL hs [.m 123 17] ?_));cases zA:(((xs.getD 0 0).num.sign:Int) == (0:Int))
          ·
           have yA:=neOfBeq zA;refine lB 124 zA (lL hs [.m 122 124] (lN (cIF (cSL (lL hs [.m 126 0] ?_)))));cases zB:((op:Int) == (9:Int))
           ·
            have yB:=neOfBeq zB;refine lB 127 zB (lL hs [.m 125 127] (lN (cIF (cSL (lL hs [.m 133 0] ?_)))));have zT:((op:Int) == (11:Int))=false:=beqF oM;have phb32:=neOfBeq zT;refine lB 134 zT (lL hs [.m 132 134] (lN (cIF (cSL (lL hs [.m 144 17] ?_)))));cases zD:(decide ((0:Int)<((xs.getD 0 0).num.sign:Int)))
            ·
             have yC:=oF zD;refine lB 145 zD (lL hs [.m 143 145] (lN (cIF (cK (cSL (lC 147 hs (rOf 0 oM oM _ _ hs.g) ?_))))));rintro _ _ _ hs ⟨YN,YO,YP,YQ,rfl,ZC,ZD,ZE,ZF⟩;replace hs:=hs.aP ZE ZF;refine lL hs [.m 148 12] (lC 149 hs (rSeries1 ((0:Int):Rat) YN YO YP YQ ZC ZD ((ta.length-1)) oM _ _ hs.g hs.f.2.1 hs.f.1) ?_);rintro _ _ _ hs ⟨YR,YS,zU,rfl,ZG,ZH,ZI⟩;replace hs:=((hs.aS ZH).aT ZI);refine lL hs [.m 10 149,.v 11 (iV 0)] (lN (kX ?_));obtain rfl:op=10:=by omega
             exact hs.ret [] (.tuple #[qS YR zU.length YS,iV 0]) (by obtain ⟨e1,e2⟩:=ofs_0 (op:=10) (n:=n) (xs:=xs) (ys:=ys) (okq_o oM oM) (nknk_s oM oM);rw[e1,e2,←show _=serL 10 n xs ys from (ser_10n oM)];exact ⟨_,_,zU,rfl,ZG,hs.f.2.1,hs.f.1⟩)
            have yC:=oT zD;refine lB 145 zD (lL hs [.m 143 145] (lN (cIT (cSL (lL hs [.m 146 2,.m 10 146,.v 11 (iV 0)] (lN (kX ?_)))))));obtain rfl:op=10:=by omega
            exact hs.ret [] (.tuple #[qS A ta.length cA,iV 0]) (by obtain ⟨e1,e2⟩:=ofs_0 (op:=10) (n:=n) (xs:=xs) (ys:=ys) (okq_o oM oM) (nknk_s oM oM);rw[e1,e2,←show _=serL 10 n xs ys from (ser_10p hx oM)];exact ⟨_,_,ta,rfl,hcA,hs.f.q.q.2.1,hs.f.q.q.1⟩)
           have yB:=eq_of_beq zB;refine lB 127 zB (lL hs [.m 125 127] (lN (cIT (cSL (lL hs [.m 128 2,.m 129 17] ?_)))));have hq60:LQ (1) ((((xs.getD 0 0).num.sign:Int):Rat)):=LQ.int oM oM;refine lC 130 hs (rOf ((xs.getD 0 0).num.sign) oM oM _ _ hs.g) ?_;rintro _ _ _ hs ⟨YT,YU,YV,YW,rfl,ZJ,ZK,ZL,ZM⟩;replace hs:=hs.aP ZL ZM;have hln6:xs.length=2:=hx;refine lC 131 hs (rTimes A cA xs ta (((xs.getD 0 0).num.sign:Int):Rat) YT YU YV YW ZJ ZK D_ 1 oM oM ha (LQ.int oM oM) _ _ hs.g hs.f.q.q.r.2.1 hs.f.q.q.r.1 hs.f.2.1 hs.f.1) ?_;rintro _ _ _ hs ⟨YX,c64,zW,rfl,ZN,ZO,ZP⟩;replace hs:=((hs.aS ZO).aT ZP);refine lL hs [.m 10 131,.v 11 (iV 0)] (lN (kX ?_));obtain rfl:op=9:=by omega
           exact hs.ret [] (.tuple #[qS YX zW.length c64,iV 0]) (by obtain ⟨e1,e2⟩:=ofs_0 (op:=9) (n:=n) (xs:=xs) (ys:=ys) (okq_o oM oM) (nknk_s oM oM);rw[e1,e2,←show _=serL 9 n xs ys from (ser_9 hx)];exact ⟨_,_,zW,rfl,ZN,hs.f.2.1,hs.f.1⟩)
          have yA:=eq_of_beq zA;exact lB 124 zA (lL hs [.m 122 124] (lN (cIT (cSL (lL hs [.v 10 (sZ),.v 11 (iV 7)] (lN (kX (hs.ret [] (.tuple #[sZ,iV 7]) (by obtain ⟨e1,e2⟩:=ofs_7 (op:=op) (n:=n) (xs:=xs) (ys:=ys) (okq_o oM oM) (knk_s oM oM);rw[e1,e2];exact ⟨none,0,[],rfl,nR _,SlO.nil,RTs.nil⟩)))))))))
         have yx:=eq_of_beq zx;refine lB 113 zx (lL hs [.m 114 113,.m 115 17] ?_);cases zE:(((xs.getD 0 0).num.sign:Int) == (0:Int))
         ·
          have yD:=neOfBeq zE;refine lB 116 zE (lL hs [.v 117 qF,.m 118 117] (lG 119 ?_));refine lL hs [.v 120 qF,.m 111 120] (lN (cTo [(0,iV op),(2,qS A ta.length cA),(10,sZ),(11,iV 0),(12,nV (ta.length-1)),(13,qS zb za.length zc),(17,iV ((xs.getD 0 0).num.sign)),(111,qF)] ?_));refine cIF (cSL (lL hs [.m 123 17] ?_));have zX:(((xs.getD 0 0).num.sign:Int) == (0:Int))=false:=beqF oM;have phb72:=neOfBeq zX;refine lB 124 zX (lL hs [.m 122 124] (lN (cIF (cSL (lL hs [.m 126 0] ?_)))));have ya:((op:Int) == (9:Int))=false:=beqF oM;have phb73:=neOfBeq ya;refine lB 127 ya (lL hs [.m 125 127] (lN (cIF (cSL (lL hs [.m 133 0] ?_)))));have yb:((op:Int) == (11:Int))=true:=beqT oM;have phb74:=eq_of_beq yb;refine lB 134 yb (lL hs [.m 132 134] (lN (cIT (cSL (lL hs [.m 135 2,.m 136 13,.m 137 2,.m 138 17] ?_)))));have hq83:LQ (1) ((((xs.getD 0 0).num.sign:Int):Rat)):=LQ.int oM oM;refine lC 139 hs (rOf ((xs.getD 0 0).num.sign) oM oM _ _ hs.g) ?_;rintro _ _ _ hs ⟨A75,c76,A79,c80,rfl,ZQ,ZR,ZS,ZT⟩;replace hs:=hs.aP ZS ZT;have hln8:xs.length=2:=hx;refine lC 140 hs (rTimes A cA xs ta (((xs.getD 0 0).num.sign:Int):Rat) A75 c76 A79 c80 ZQ ZR D_ 1 oM oM ha (LQ.int oM oM) _ _ hs.g hs.f.q.q.r.2.1 hs.f.q.q.r.1 hs.f.2.1 hs.f.1) ?_;rintro _ _ _ hs ⟨A86,c87,ZU,rfl,hc89,ZV,ZW⟩;replace hs:=((hs.aS ZV).aT ZW);have hln9a:[((1:Int):Rat),((0:Int):Rat)].length=2:=rfl;have hln9b:((List.range xs.length).map fun i=>xs.getD i 0*(((xs.getD 0 0).num.sign:Int):Rat)).length=2:=(by rw[List.length_map,List.length_range];exact hx);refine lC 141 hs (rPlus zb zc [((1:Int):Rat),((0:Int):Rat)] za A86 c87 ((List.range xs.length).map fun i=>xs.getD i 0*(((xs.getD 0 0).num.sign:Int):Rat)) ZU 1 (D_+1) oM oM (lq_lst (K:=1) oM (LQ.lit kD) (LQ.lit kD)) (lq_map (K:=D_+1) oM fun i=>(ha i).mul (LQ.int oM oM)) oM _ _ hs.g hs.f.q.r.2.1 hs.f.q.r.1 hs.f.2.1 hs.f.1) ?_;rintro _ _ _ hs ⟨A94,c95,ZX,rfl,hc97,Ya,Yb⟩;replace hs:=((hs.aS Ya).aT Yb);have hln10a:xs.length=2:=hx;have hln10b:((List.range [((1:Int):Rat),((0:Int):Rat)].length).map fun i=>[((1:Int):Rat),((0:Int):Rat)].getD i 0+((List.range xs.length).map fun i=>xs.getD i 0*(((xs.getD 0 0).num.sign:Int):Rat)).getD i 0).length=2:=(by rw[List.length_map,List.length_range];exact rfl);refine lC 142 hs (rQuotient A cA xs ta A94 c95 ((List.range [((1:Int):Rat),((0:Int):Rat)].length).map fun i=>[((1:Int):Rat),((0:Int):Rat)].getD i 0+((List.range xs.length).map fun i=>xs.getD i 0*(((xs.getD 0 0).num.sign:Int):Rat)).getD i 0) ZX D_ (1+(D_+1)+1) oM oM oM ha (lq_map (K:=1+(D_+1)+1) oM fun i=>((lq_lst (K:=1) oM (LQ.lit kD) (LQ.lit kD)) i).add ((lq_map (K:=D_+1) oM fun i=>(ha i).mul (LQ.int oM oM)) i)) oM (q11_nz xs (by rw[hx];rfl)) _ _ hs.g hs.f.q.q.q.r.2.1 hs.f.q.q.q.r.1 hs.f.2.1 hs.f.1) ?_;rintro _ _ _ hs ⟨Yc,Yd,zF,rfl,yE,yF,yG⟩;replace hs:=((hs.aS yF).aT yG);refine lL hs [.m 10 142,.v 11 (iV 0)] (lN (kX ?_));obtain rfl:op=11:=by omega
          exact hs.ret [] (.tuple #[qS Yc zF.length Yd,iV 0]) (by obtain ⟨e1,e2⟩:=ofs_0 (op:=11) (n:=n) (xs:=xs) (ys:=ys) (okq_o oM oM) (nknk oM oM oM);rw[e1,e2,←show _=serL 11 n xs ys from (ser_11 hx)];exact ⟨_,_,zF,rfl,yE,hs.f.2.1,hs.f.1⟩)
         have yD:=eq_of_beq zE;refine lB 116 zE (lL hs [.v 117 qT,.m 118 117,.m 119 4,.v 120 qT,.m 111 120] (lN (cTo [(0,iV op),(2,qS A ta.length cA),(10,sZ),(11,iV 0),(12,nV (ta.length-1)),(13,qS zb za.length zc),(17,iV ((xs.getD 0 0).num.sign)),(111,qT)] ?_)));refine cIT (cSL (lL hs [.m 121 2,.m 10 121,.v 11 (iV 0)] (lN (kX ?_))));obtain rfl:op=11:=by omega
         exact hs.ret [] (.tuple #[qS A ta.length cA,iV 0]) (by obtain ⟨e1,e2⟩:=ofs_0 (op:=11) (n:=n) (xs:=xs) (ys:=ys) (okq_o oM oM) (nknk oM oM oM);rw[e1,e2,←show _=serL 11 n xs ys from (ser_11z hx oM)];exact ⟨_,_,ta,rfl,hcA,hs.f.q.q.2.1,hs.f.q.q.1⟩)
        have yw:=eq_of_beq zw;refine lB 88 zw (lL hs [.m 86 88] (lN (cIT (cQ (cR 7 [] mixed hs al_nil ?_)))));refine eV 0 89 (qS A ta.length cA) (eX 1 90 A ta.length cA 3 0 0 ((hs.f.q.r.2.1).ok oM) ?_);obtain ⟨Ax,cx,Dx,dx,ex,hcx,hdx,hAx,hDx⟩:=(hs.f.q.r.1).at_ 0 oM;replace hs:=hs.aP hAx hDx;refine eHe 2 91 (rA (ta.getD 0 rqd)) hs ((hs.f.q.q.2.1).el 0 oM) ex (eV 3 92 (qS D tb_.length cD) (eX 4 93 D tb_.length cD 3 0 0 ((hs.f.q.r.2.1).ok oM) ?_));obtain ⟨Ay,cy,Dy,dy,ey,hcy,hdy,hAy,hDy⟩:=(hs.f.q.r.1).at_ 0 oM;replace hs:=hs.aP hAy hDy;refine eHe 5 94 (rA (tb_.getD 0 rqd)) hs ((hs.f.q.q.2.1).el 0 oM) ey (eC 6 95 hs (fun _ _ hs=>rCmp (xs.getD 0 0) Ax cx Dx dx hcx hdx (nl (ha 0)) (nD (ha 0)) (ys.getD 0 0) Ay cy Dy dy hcy hdy (nl (hb 0)) (nD (hb 0)) _ _ hs.g hs.f.r.2.1 hs.f.r.1 hs.f.2.1 hs.f.1) ?_);rintro _ _ _ _ _ hs rfl;refine eD0 hs (fun _ _ hs=>tV 7 16 (iV (cmpR (xs.getD 0 0) (ys.getD 0 0))) (tN (cQ (kZ (cSL (lL hs [.m 97 16] ?_))))));cases zd:((cmpR (xs.getD 0 0) (ys.getD 0 0):Int) == (0:Int))
        ·
         have yc:=neOfBeq zd;refine lB 98 zd (lL hs [.m 96 98] (lN (cTo [(0,iV op),(2,qS A ta.length cA),(3,qS D tb_.length cD),(4,qT),(10,sZ),(11,iV 0),(12,nV (ta.length-1)),(13,qS zb za.length zc),(16,iV (cmpR (xs.getD 0 0) (ys.getD 0 0))),(96,qF)] ?_)));refine cIF (cSL (lL hs [.m 100 16] ?_));cases ze:(decide ((0:Int)<(cmpR (xs.getD 0 0) (ys.getD 0 0):Int)))
         ·
          have yd:=oF ze;refine lB 101 ze (lL hs [.m 102 0] ?_);have zG:((op:Int) == (12:Int))=false:=beqF oM;have phb116:=neOfBeq zG;exact lB 103 zG (lL hs [.v 104 qT,.m 99 104] (lN (cIT (cSL (lL hs [.m 105 2,.m 10 105,.v 11 (iV 0)] (lN (kX (hs.ret [] (.tuple #[qS A ta.length cA,iV 0]) (by obtain ⟨e1,e2⟩:=ofs_0 (op:=op) (n:=n) (xs:=xs) (ys:=ys) (okq_o oM oM) (nknk_c oM oM);rw[e1,e2,←show _=serL op n xs ys from (ser_c1 hx oM oM)];exact ⟨_,_,ta,rfl,hcA,hs.f.q.q.r.2.1,hs.f.q.q.r.1⟩)))))))))
         have yd:=oT ze;refine lB 101 ze (lL hs [.m 102 0] ?_);have zH:((op:Int) == (12:Int))=false:=beqF oM;have phb117:=neOfBeq zH;exact lB 103 zH (lL hs [.v 104 qF,.m 99 104] (lN (cIF (cK (cSL (lL hs [.m 106 3,.m 10 106,.v 11 (iV 0)] (lN (kX (hs.ret [] (.tuple #[qS D tb_.length cD,iV 0]) (by obtain ⟨e1,e2⟩:=ofs_0 (op:=op) (n:=n) (xs:=xs) (ys:=ys) (okq_o oM oM) (nknk_c oM oM);rw[e1,e2,←show _=serL op n xs ys from (ser_c2 hy oM oM)];exact ⟨_,_,tb_,rfl,hcD,hs.f.q.q.2.1,hs.f.q.q.1⟩))))))))))
        have yc:=eq_of_beq zd;refine lB 98 zd (lL hs [.m 96 98] (lN (cTo [(0,iV op),(2,qS A ta.length cA),(3,qS D tb_.length cD),(4,qT),(10,sZ),(11,iV 0),(12,nV (ta.length-1)),(13,qS zb za.length zc),(16,iV (cmpR (xs.getD 0 0) (ys.getD 0 0))),(96,qT)] ?_)));exact cIT (cSL (lL hs [.v 10 (sZ),.v 11 (iV 7)] (lN (kX (hs.ret [] (.tuple #[sZ,iV 7]) (by obtain ⟨e1,e2⟩:=ofs_7 (op:=op) (n:=n) (xs:=xs) (ys:=ys) (okq_o oM oM) (knk_c oM oM);rw[e1,e2];exact ⟨none,0,[],rfl,nR _,SlO.nil,RTs.nil⟩))))))
       have yv:=eq_of_beq zv;refine lB 87 zv (lL hs [.m 86 87] (lN (cIT (cK (cIT (cQ (cR 7 [] mixed hs al_nil ?_)))))));refine eV 0 89 (qS A ta.length cA) (eX 1 90 A ta.length cA 3 0 0 ((hs.f.q.r.2.1).ok oM) ?_);obtain ⟨Ax,cx,Dx,dx,ex,hcx,hdx,hAx,hDx⟩:=(hs.f.q.r.1).at_ 0 oM;replace hs:=hs.aP hAx hDx;refine eHe 2 91 (rA (ta.getD 0 rqd)) hs ((hs.f.q.q.2.1).el 0 oM) ex (eV 3 92 (qS D tb_.length cD) (eX 4 93 D tb_.length cD 3 0 0 ((hs.f.q.r.2.1).ok oM) ?_));obtain ⟨Ay,cy,Dy,dy,ey,hcy,hdy,hAy,hDy⟩:=(hs.f.q.r.1).at_ 0 oM;replace hs:=hs.aP hAy hDy;refine eHe 5 94 (rA (tb_.getD 0 rqd)) hs ((hs.f.q.q.2.1).el 0 oM) ey (eC 6 95 hs (fun _ _ hs=>rCmp (xs.getD 0 0) Ax cx Dx dx hcx hdx (nl (ha 0)) (nD (ha 0)) (ys.getD 0 0) Ay cy Dy dy hcy hdy (nl (hb 0)) (nD (hb 0)) _ _ hs.g hs.f.r.2.1 hs.f.r.1 hs.f.2.1 hs.f.1) ?_);rintro _ _ _ _ _ hs rfl;refine eD0 hs (fun _ _ hs=>tV 7 16 (iV (cmpR (xs.getD 0 0) (ys.getD 0 0))) (tN (cQ (kZ (cSL (lL hs [.m 97 16] ?_))))));cases zf:((cmpR (xs.getD 0 0) (ys.getD 0 0):Int) == (0:Int))
       ·
        have ye:=neOfBeq zf;refine lB 98 zf (lL hs [.m 96 98] (lN (cTo [(0,iV op),(2,qS A ta.length cA),(3,qS D tb_.length cD),(4,qT),(10,sZ),(11,iV 0),(12,nV (ta.length-1)),(13,qS zb za.length zc),(16,iV (cmpR (xs.getD 0 0) (ys.getD 0 0))),(96,qF)] ?_)));refine cIF (cSL (lL hs [.m 100 16] ?_));cases zg:(decide ((0:Int)<(cmpR (xs.getD 0 0) (ys.getD 0 0):Int)))
        ·
         have yf:=oF zg;refine lB 101 zg (lL hs [.m 102 0] ?_);have zI:((op:Int) == (12:Int))=true:=beqT oM;have phb124:=eq_of_beq zI;exact lB 103 zI (lL hs [.v 104 qF,.m 99 104] (lN (cIF (cK (cSL (lL hs [.m 106 3,.m 10 106,.v 11 (iV 0)] (lN (kX (hs.ret [] (.tuple #[qS D tb_.length cD,iV 0]) (by obtain ⟨e1,e2⟩:=ofs_0 (op:=op) (n:=n) (xs:=xs) (ys:=ys) (okq_o oM oM) (nknk_c oM oM);rw[e1,e2,←show _=serL op n xs ys from (ser_c2 hy oM oM)];exact ⟨_,_,tb_,rfl,hcD,hs.f.q.q.2.1,hs.f.q.q.1⟩))))))))))
        have yf:=oT zg;refine lB 101 zg (lL hs [.m 102 0] ?_);have zJ:((op:Int) == (12:Int))=true:=beqT oM;have phb125:=eq_of_beq zJ;exact lB 103 zJ (lL hs [.v 104 qT,.m 99 104] (lN (cIT (cSL (lL hs [.m 105 2,.m 10 105,.v 11 (iV 0)] (lN (kX (hs.ret [] (.tuple #[qS A ta.length cA,iV 0]) (by obtain ⟨e1,e2⟩:=ofs_0 (op:=op) (n:=n) (xs:=xs) (ys:=ys) (okq_o oM oM) (nknk_c oM oM);rw[e1,e2,←show _=serL op n xs ys from (ser_c1 hx oM oM)];exact ⟨_,_,ta,rfl,hcA,hs.f.q.q.r.2.1,hs.f.q.q.r.1⟩)))))))))
       have ye:=eq_of_beq zf;refine lB 98 zf (lL hs [.m 96 98] (lN (cTo [(0,iV op),(2,qS A ta.length cA),(3,qS D tb_.length cD),(4,qT),(10,sZ),(11,iV 0),(12,nV (ta.length-1)),(13,qS zb za.length zc),(16,iV (cmpR (xs.getD 0 0) (ys.getD 0 0))),(96,qT)] ?_)));exact cIT (cSL (lL hs [.v 10 (sZ),.v 11 (iV 7)] (lN (kX (hs.ret [] (.tuple #[sZ,iV 7]) (by obtain ⟨e1,e2⟩:=ofs_7 (op:=op) (n:=n) (xs:=xs) (ys:=ys) (okq_o oM oM) (knk_c oM oM);rw[e1,e2];exact ⟨none,0,[],rfl,nR _,SlO.nil,RTs.nil⟩))))))
      have yu:=eq_of_beq zu;refine lB 58 zu (lL hs [.m 57 58] (lN (cIT (cQ (cSL (lL hs [.m 59 1] ?_))))));cases zi:(decide ((n:Int)<(0:Int)))
      ·
       have yg:=oF zi;refine lB 60 zi (lL hs [.m 61 60] (lG 62 ?_));refine lG 63 (lG 64 (lG 65 (lG 66 (lL hs [.v 67 qF] (lN (cIF (cK (cSL (lL hs [.m 68 13,.m 14 68] (lN (cQ (cSL (lL hs [.v 15 (iV 0)] (lN (kZ ?_)))))))))))))));replace hs:=hs.aT (hs.f.1);replace hs:=hs.aS hs.f.r.1;refine cTo _ (CG.loop (fun μ_ Γ w_=>∃ (k:Nat) (Ap:Option Addr) (cp:Nat) (tp:List RT) (h_:Hp),μ_=n.natAbs-k∧Γ=[(0,iV op),(1,iV n),(2,qS A ta.length cA),(4,qT),(10,sZ),(11,iV 0),(12,nV (ta.length-1)),(13,qS zb za.length zc),(15,nV k),(14,qS Ap tp.length cp)]∧SS w h w_ h_ [] [] [Sr Ap tp,Rt tp (pser xs k),Rt za ([((1:Int):Rat),((0:Int):Rat)]),Sr zb za,S3 A5 (lim ((1:Int):Rat).den),S3 A1 (lim (iabs ((1:Int):Rat).num)),Rt tb_ ys,Sr D tb_,Rt ta xs,Sr A ta]∧k≤n.natAbs∧tp.length≤cp) _ ⟨0,zb,zc,za,YM,rfl,rfl,hs.to _ _,Nat.zero_le _,zS⟩ ?_);rintro _ _ _ ⟨k,Ap,cp,tp,_,hm129,rfl,hs,hk,hcp⟩;have hop8:op=8:=by omega
       have hn8:=hn hop8;have hlp:=(hs.f.2.1).len;rw[pser_len] at hlp
       refine cQ (cSL (lL hs [.m 69 15,.m 70 1,.m 71 1] (lI 72 (0-n) ?_)));refine lV 73 (iV (max (n:Int) (0-n:Int))) ?_ (hr:=rint (n:=(if (0-n:Int)>(n:Int) then (0-n:Int) else (n:Int))) kR (by simp only[imax2]));cases zj:(decide ((k:Int)<(max (n:Int) (0-n:Int):Int)))
       ·
        have yi:=oF zj;refine lB 74 zj (lN (cIF (CG.exit ?_)))
        show CG _ _ _ _ _ _ _ _
        refine cQ (cSL (lL hs [.m 80 1] ?_));cases zk:(decide ((n:Int)<(0:Int)))
        ·
         have yj:=oF zk;refine lB 81 zk (lN (cIF (cK (cSL (lL hs [.m 85 14,.m 10 85,.v 11 (iV 0)] (lN (kX ?_)))))));obtain rfl:op=8:=by omega
         exact hs.ret [] (.tuple #[qS Ap tp.length cp,iV 0]) (by obtain ⟨e1,e2⟩:=ofs_0 (op:=8) (n:=n) (xs:=xs) (ys:=ys) (okq_8 (fun h0=>absurd h0 oM)) (nknk oM oM oM);rw[e1,e2,←show _=serL 8 n xs ys from (ser_8p (m:=k) oM oM)];exact ⟨_,_,tp,rfl,hcp,hs.f.1,hs.f.2.1⟩)
        have yj:=oT zk;refine lB 81 zk (lN (cIT (kQ (lL hs [.m 82 13,.m 83 14] ?_))));have hln13a:[((1:Int):Rat),((0:Int):Rat)].length=2:=rfl;have hln13b:(pser xs k).length=2:=(pser_len xs k);refine lC 84 hs (rQuotient zb zc [((1:Int):Rat),((0:Int):Rat)] za Ap cp (pser xs k) tp 1 (12*K+D_+3) oM oM oM (lq_lst (K:=1) oM (LQ.lit kD) (LQ.lit kD)) (lq_pser hK1 oM ha0 (ha 1)) oM (by rw[pser_eq];exact powN_nz (nz_sign oM) k) _ _ hs.g hs.f.r.2.1 hs.f.r.1 hs.f.1 hs.f.2.1) ?_;rintro _ _ _ hs ⟨Ye,Yf,zK,rfl,yH,yI,yJ⟩;replace hs:=((hs.aS yI).aT yJ);refine lL hs [.m 14 84] (lNS (lL hs [.m 85 14,.m 10 85,.v 11 (iV 0)] (lN (kX ?_))));obtain rfl:op=8:=by omega
        exact hs.ret [] (.tuple #[qS Ye zK.length Yf,iV 0]) (by obtain ⟨e1,e2⟩:=ofs_0 (op:=8) (n:=n) (xs:=xs) (ys:=ys) (okq_8 (fun h0=>nz_sign oM)) (nknk oM oM oM);rw[e1,e2,←show _=serL 8 n xs ys from (ser_8n (m:=k) oM oM (nz_sign oM))];exact ⟨_,_,zK,rfl,yH,hs.f.2.1,hs.f.1⟩)
       have yi:=oT zj;refine lB 74 zj (lN (cIT (cK (cQ (kZ (kQ (lL hs [.m 77 14,.m 78 2] ?_)))))));have hln14a:(pser xs k).length=2:=(pser_len xs k);have hln14b:xs.length=2:=hx;refine lC 79 hs (rProduct Ap cp (pser xs k) tp A cA xs ta (12*K+D_+3) D_ oM oM (lq_pser hK1 oM ha0 (ha 1)) ha oM _ _ hs.g hs.f.1 hs.f.2.1 hs.f.q.q.2.1 hs.f.q.q.1) ?_;rintro _ _ Yg hs ⟨Yi,Yj,yK,rfl,yL,yM,yN⟩;replace hs:=((hs.aS yM).aT yN);refine lL hs [.m 14 79] (lN (kQ (lL hs [.m 75 15] (lIn 76 ((k:Nat)+1) (k+1) ?_))));refine lL hs [.m 15 76] (lD ?_);intro a_ ka;replace hs:=((hs.tl.tl.tl.tl.aT hs.f.1).aS hs.f.2.1);refine ⟨_,_,?_,⟨k+1,Yi,Yj,yK,Yg,rfl,rfl,hs.to _ _,oM,yL⟩,ka.to _ kR⟩
       omega
      have yg:=oT zi;refine lB 60 zi (lL hs [.m 61 60,.m 62 2] (lX 63 A ta.length cA 3 0 0 ((hs.f.q.r.2.1).ok oM) ?_));obtain ⟨Ax,cx,Dx,dx,ex,hcx,hdx,hAx,hDx⟩:=(hs.f.q.r.1).at_ 0 oM;replace hs:=hs.aP hAx hDx;refine lHe 64 (rA (ta.getD 0 rqd)) hs ((hs.f.q.q.2.1).el 0 oM) ex (lC 65 hs (rSign (xs.getD 0 0) Ax cx Dx dx hcx hdx (nl (ha 0)) (nD (ha 0)) _ _ hs.g hs.f.2.1 hs.f.1) ?_);rintro _ _ Yk hs rfl;cases zl:(((xs.getD 0 0).num.sign:Int) == (0:Int))
      ·
       have yk:=neOfBeq zl;refine lB 66 zl (lL hs [.v 67 qF] (lN (cIF (cK (cSL (lL hs [.m 68 13,.m 14 68] (lN (cQ (cSL (lL hs [.v 15 (iV 0)] (lN (kZ ?_))))))))))));replace hs:=hs.aT (hs.f.r.1);replace hs:=hs.aS hs.f.q.1;refine cTo _ (CG.loop (fun μ_ Γ w_=>∃ (k:Nat) (Ap:Option Addr) (cp:Nat) (tp:List RT) (h_:Hp),μ_=n.natAbs-k∧Γ=[(0,iV op),(1,iV n),(2,qS A ta.length cA),(4,qT),(10,sZ),(11,iV 0),(12,nV (ta.length-1)),(13,qS zb za.length zc),(15,nV k),(14,qS Ap tp.length cp)]∧SS w h w_ h_ [] [] [Sr Ap tp,Rt tp (pser xs k),S3 Dx (lim (xs.getD 0 0).den),S3 Ax (lim (iabs (xs.getD 0 0).num)),Rt za ([((1:Int):Rat),((0:Int):Rat)]),Sr zb za,S3 A5 (lim ((1:Int):Rat).den),S3 A1 (lim (iabs ((1:Int):Rat).num)),Rt tb_ ys,Sr D tb_,Rt ta xs,Sr A ta]∧k≤n.natAbs∧tp.length≤cp) _ ⟨0,zb,zc,za,Yk,rfl,rfl,hs.to _ _,Nat.zero_le _,zS⟩ ?_);rintro _ _ _ ⟨k,Ap,cp,tp,_,hm157,rfl,hs,hk,hcp⟩;have hop8:op=8:=by omega
       have hn8:=hn hop8;have hlp:=(hs.f.2.1).len;rw[pser_len] at hlp
       refine cQ (cSL (lL hs [.m 69 15,.m 70 1,.m 71 1] (lI 72 (0-n) ?_)));refine lV 73 (iV (max (n:Int) (0-n:Int))) ?_ (hr:=rint (n:=(if (0-n:Int)>(n:Int) then (0-n:Int) else (n:Int))) kR (by simp only[imax2]));cases zm:(decide ((k:Int)<(max (n:Int) (0-n:Int):Int)))
       ·
        have yl:=oF zm;refine lB 74 zm (lN (cIF (CG.exit ?_)))
        show CG _ _ _ _ _ _ _ _
        refine cQ (cSL (lL hs [.m 80 1] ?_));cases zn:(decide ((n:Int)<(0:Int)))
        ·
         have ym:=oF zn;refine lB 81 zn (lN (cIF (cK (cSL (lL hs [.m 85 14,.m 10 85,.v 11 (iV 0)] (lN (kX ?_)))))));obtain rfl:op=8:=by omega
         exact hs.ret [] (.tuple #[qS Ap tp.length cp,iV 0]) (by obtain ⟨e1,e2⟩:=ofs_0 (op:=8) (n:=n) (xs:=xs) (ys:=ys) (okq_8 (fun h0=>absurd h0 oM)) (nknk oM oM oM);rw[e1,e2,←show _=serL 8 n xs ys from (ser_8p (m:=k) oM oM)];exact ⟨_,_,tp,rfl,hcp,hs.f.1,hs.f.2.1⟩)
        have ym:=oT zn;refine lB 81 zn (lN (cIT (kQ (lL hs [.m 82 13,.m 83 14] ?_))));have hln16a:[((1:Int):Rat),((0:Int):Rat)].length=2:=rfl;have hln16b:(pser xs k).length=2:=(pser_len xs k);refine lC 84 hs (rQuotient zb zc [((1:Int):Rat),((0:Int):Rat)] za Ap cp (pser xs k) tp 1 (12*K+D_+3) oM oM oM (lq_lst (K:=1) oM (LQ.lit kD) (LQ.lit kD)) (lq_pser hK1 oM ha0 (ha 1)) oM (by rw[pser_eq];exact powN_nz (nz_sign oM) k) _ _ hs.g hs.f.q.2.1 hs.f.q.1 hs.f.1 hs.f.2.1) ?_;rintro _ _ _ hs ⟨Yl,Ym,zL,rfl,yO,yP,yQ⟩;replace hs:=((hs.aS yP).aT yQ);refine lL hs [.m 14 84] (lNS (lL hs [.m 85 14,.m 10 85,.v 11 (iV 0)] (lN (kX ?_))));obtain rfl:op=8:=by omega
        exact hs.ret [] (.tuple #[qS Yl zL.length Ym,iV 0]) (by obtain ⟨e1,e2⟩:=ofs_0 (op:=8) (n:=n) (xs:=xs) (ys:=ys) (okq_8 (fun h0=>nz_sign oM)) (nknk oM oM oM);rw[e1,e2,←show _=serL 8 n xs ys from (ser_8n (m:=k) oM oM (nz_sign oM))];exact ⟨_,_,zL,rfl,yO,hs.f.2.1,hs.f.1⟩)
       have yl:=oT zm;refine lB 74 zm (lN (cIT (cK (cQ (kZ (kQ (lL hs [.m 77 14,.m 78 2] ?_)))))));have hln17a:(pser xs k).length=2:=(pser_len xs k);have hln17b:xs.length=2:=hx;refine lC 79 hs (rProduct Ap cp (pser xs k) tp A cA xs ta (12*K+D_+3) D_ oM oM (lq_pser hK1 oM ha0 (ha 1)) ha oM _ _ hs.g hs.f.1 hs.f.2.1 hs.f.q.q.r.2.1 hs.f.q.q.r.1) ?_;rintro _ _ Yn hs ⟨Yo,Yp,yR,rfl,yS,yT,yU⟩;replace hs:=((hs.aS yT).aT yU);refine lL hs [.m 14 79] (lN (kQ (lL hs [.m 75 15] (lIn 76 ((k:Nat)+1) (k+1) ?_))));refine lL hs [.m 15 76] (lD ?_);intro a_ ka;replace hs:=((hs.tl.tl.tl.tl.aT hs.f.1).aS hs.f.2.1);refine ⟨_,_,?_,⟨k+1,Yo,Yp,yR,Yn,rfl,rfl,hs.to _ _,oM,yS⟩,ka.to _ kR⟩
       omega
      have yk:=eq_of_beq zl;exact lB 66 zl (lL hs [.v 67 qT] (lN (cIT (cSL (lL hs [.v 10 (sZ),.v 11 (iV 6)] (lN (kX (hs.ret [] (.tuple #[sZ,iV 6]) (by obtain ⟨e1,e2⟩:=ofs_6 (op:=op) (n:=n) (xs:=xs) (ys:=ys) (not_okq8 oM oM oM);rw[e1,e2];exact ⟨none,0,[],rfl,nR _,SlO.nil,RTs.nil⟩)))))))))
     have yt:=eq_of_beq zt;refine lB 48 zt (lL hs [.m 47 48] (lN (cIT (cQ (cSL (lL hs [.m 49 3] (lX 50 D tb_.length cD 3 0 0 ((hs.f.q.2.1).ok oM) ?_)))))));obtain ⟨Ay,cy,Dy,dy,ey,hcy,hdy,hAy,hDy⟩:=(hs.f.q.1).at_ 0 oM;replace hs:=hs.aP hAy hDy;refine lHe 51 (rA (tb_.getD 0 rqd)) hs ((hs.f.q.r.2.1).el 0 oM) ey (lC 52 hs (rSign (ys.getD 0 0) Ay cy Dy dy hcy hdy (nl (hb 0)) (nD (hb 0)) _ _ hs.g hs.f.2.1 hs.f.1) ?_);rintro _ _ _ hs rfl;cases zo:(((ys.getD 0 0).num.sign:Int) == (0:Int))
     ·
      have yn:=neOfBeq zo;refine lB 53 zo (lN (cIF (cK (cSL (lL hs [.m 54 2,.m 55 3] ?_)))));have hln19a:xs.length=2:=hx;have hln19b:ys.length=2:=hy;refine lC 56 hs (rQuotient A cA xs ta D cD ys tb_ D_ D_ oM oM oM ha hb oM (nz_sign oM) _ _ hs.g hs.f.q.q.2.1 hs.f.q.q.1 hs.f.q.r.2.1 hs.f.q.r.1) ?_;rintro _ _ _ hs ⟨Yq,Yr,zM,rfl,yV,yW,yX⟩;replace hs:=((hs.aS yW).aT yX);refine lL hs [.m 10 56,.v 11 (iV 0)] (lN (kX ?_));obtain rfl:op=6:=by omega
      exact hs.ret [] (.tuple #[qS Yq zM.length Yr,iV 0]) (by obtain ⟨e1,e2⟩:=ofs_0 (op:=6) (n:=n) (xs:=xs) (ys:=ys) (okq_6 (nz_sign oM)) (nknk oM oM oM);rw[e1,e2,←show _=serL 6 n xs ys from (ser_6 hx (nz_sign oM))];exact ⟨_,_,zM,rfl,yV,hs.f.2.1,hs.f.1⟩)
     have yn:=eq_of_beq zo;exact lB 53 zo (lN (cIT (cSL (lL hs [.v 10 (sZ),.v 11 (iV 6)] (lN (kX (hs.ret [] (.tuple #[sZ,iV 6]) (by obtain ⟨e1,e2⟩:=ofs_6 (op:=op) (n:=n) (xs:=xs) (ys:=ys) (not_okq6 oM oM);rw[e1,e2];exact ⟨none,0,[],rfl,nR _,SlO.nil,RTs.nil⟩))))))))
    have yr:=eq_of_beq zs;refine lB 43 zs (lL hs [.m 42 43] (lN (cIT (cSL (lL hs [.m 44 2,.m 45 3] ?_)))));have hln20a:xs.length=2:=hx;have hln20b:ys.length=2:=hy;refine lC 46 hs (rProduct A cA xs ta D cD ys tb_ D_ D_ oM oM ha hb oM _ _ hs.g hs.f.q.r.2.1 hs.f.q.r.1 hs.f.q.2.1 hs.f.q.1) ?_;rintro _ _ _ hs ⟨Ys,Yt,zN,rfl,Za,Zb,Zc⟩;replace hs:=((hs.aS Zb).aT Zc);refine lL hs [.m 10 46,.v 11 (iV 0)] (lN (kX ?_));obtain rfl:op=5:=by omega
    exact hs.ret [] (.tuple #[qS Ys zN.length Yt,iV 0]) (by obtain ⟨e1,e2⟩:=ofs_0 (op:=5) (n:=n) (xs:=xs) (ys:=ys) (okq_o oM oM) (nknk oM oM oM);rw[e1,e2,←show _=serL 5 n xs ys from (ser_5 hx)];exact ⟨_,_,zN,rfl,Za,hs.f.2.1,hs.f.1⟩)
   have yq:=eq_of_beq zr;refine lB 38 zr (lL hs [.m 37 38] (lN (cIT (cSL (lL hs [.m 39 2] (lC 40 hs (rOf (-1) oM oM _ _ hs.g) ?_))))));rintro _ _ _ hs ⟨Yu,Yv,Yw,Yx,rfl,Zd,Ze,Zf,Zg⟩;replace hs:=hs.aP Zf Zg;have hln22:xs.length=2:=hx;refine lC 41 hs (rTimes A cA xs ta ((-1:Int):Rat) Yu Yv Yw Yx Zd Ze D_ 1 oM oM ha (LQ.lit kD) _ _ hs.g hs.f.q.q.2.1 hs.f.q.q.1 hs.f.2.1 hs.f.1) ?_;rintro _ _ _ hs ⟨YA,YB,zP,rfl,Zi,Zj,Zk⟩;replace hs:=((hs.aS Zj).aT Zk);refine lL hs [.m 10 41,.v 11 (iV 0)] (lN (kX ?_));obtain rfl:op=7:=by omega
   exact hs.ret [] (.tuple #[qS YA zP.length YB,iV 0]) (by obtain ⟨e1,e2⟩:=ofs_0 (op:=7) (n:=n) (xs:=xs) (ys:=ys) (okq_o oM oM) (nknk oM oM oM);rw[e1,e2,←show _=serL 7 n xs ys from (ser_7 hx)];exact ⟨_,_,zP,rfl,Zi,hs.f.2.1,hs.f.1⟩)
  have yp:=eq_of_beq zq;refine lB 31 zq (lL hs [.m 30 31] (lN (cIT (cSL (lL hs [.m 32 2,.m 33 3] (lC 34 hs (rOf (-1) oM oM _ _ hs.g) ?_))))));rintro _ _ _ hs ⟨YC,YD,YE,YF,rfl,Zl,Zm,Zn,Zo⟩;replace hs:=hs.aP Zn Zo;have hln24:ys.length=2:=hy;refine lC 35 hs (rTimes D cD ys tb_ ((-1:Int):Rat) YC YD YE YF Zl Zm D_ 1 oM oM hb (LQ.lit kD) _ _ hs.g hs.f.q.r.2.1 hs.f.q.r.1 hs.f.2.1 hs.f.1) ?_;rintro _ _ _ hs ⟨YG,YH,Zp,rfl,hc230,Zq,Zr⟩;replace hs:=((hs.aS Zq).aT Zr);have hln25a:xs.length=2:=hx;have hln25b:((List.range ys.length).map fun i=>ys.getD i 0*((-1:Int):Rat)).length=2:=(by rw[List.length_map,List.length_range];exact hy);refine lC 36 hs (rPlus A cA xs ta YG YH ((List.range ys.length).map fun i=>ys.getD i 0*((-1:Int):Rat)) Zp D_ (D_+1) oM oM ha (lq_map (K:=D_+1) oM fun i=>(hb i).mul (LQ.lit kD)) oM _ _ hs.g hs.f.q.q.r.2.1 hs.f.q.q.r.1 hs.f.2.1 hs.f.1) ?_;rintro _ _ _ hs ⟨YI,YJ,zQ,rfl,Zs,Zt,Zu⟩;replace hs:=((hs.aS Zt).aT Zu);refine lL hs [.m 10 36,.v 11 (iV 0)] (lN (kX ?_));obtain rfl:op=4:=by omega
  exact hs.ret [] (.tuple #[qS YI zQ.length YJ,iV 0]) (by obtain ⟨e1,e2⟩:=ofs_0 (op:=4) (n:=n) (xs:=xs) (ys:=ys) (okq_o oM oM) (nknk oM oM oM);rw[e1,e2,←show _=serL 4 n xs ys from (ser_4 hx hy)];exact ⟨_,_,zQ,rfl,Zs,hs.f.2.1,hs.f.1⟩)
 have yo:=eq_of_beq zp;refine lB 26 zp (lL hs [.m 25 26] (lN (cIT (cSL (lL hs [.m 27 2,.m 28 3] ?_)))));have hln26a:xs.length=2:=hx;have hln26b:ys.length=2:=hy;refine lC 29 hs (rPlus A cA xs ta D cD ys tb_ D_ D_ oM oM ha hb oM _ _ hs.g hs.f.q.r.2.1 hs.f.q.r.1 hs.f.q.2.1 hs.f.q.1) ?_;rintro _ _ _ hs ⟨YK,YL,zR,rfl,Zv,Zw,Zx⟩;replace hs:=((hs.aS Zw).aT Zx);refine lL hs [.m 10 29,.v 11 (iV 0)] (lN (kX ?_));obtain rfl:op=3:=by omega
 exact hs.ret [] (.tuple #[qS YK zR.length YL,iV 0]) (by obtain ⟨e1,e2⟩:=ofs_0 (op:=3) (n:=n) (xs:=xs) (ys:=ys) (okq_o oM oM) (nknk oM oM oM);rw[e1,e2,←show _=serL 3 n xs ys from (ser_3 hx)];exact ⟨_,_,zR,rfl,Zv,hs.f.2.1,hs.f.1⟩)
theorem lq_ite {c:Prop}[Decidable c]{a b:Rat}{k:Nat}(ha:c→LQ k a)(hb:¬c→LQ k b):LQ k (if c then a else b):=by
  by_cases h:c
  · rw[if_pos h];exact ha h
  · rw[if_neg h];exact hb h
theorem tvals_get (l:List Stp)(at_:List Rat)(k:Nat):∀ n,k≤n→∀ j,j<k→(tvals l at_ n).getD j 0=(tvals l at_ k).getD j 0:=fun n hn=>by
  induction hn with
  | refl=>intro j _;rfl
  | @step n hn ih =>
    intro j hj;have hn':k≤n:=hn
    show (tvals l at_ n++[_]).getD j 0=_
    rw[getD_snoc,tvals_len,if_pos oM];exact ih j hj
theorem vl_get {l:List Stp}{at_ L:List Rat}(h:L=tvals l at_ l.length){k j:Nat}(hj:j<k)(hk:k≤l.length):L.getD j 0=(tvals l at_ k).getD j 0:=by rw[h];exact tvals_get l at_ k _ hk j hj
theorem terr_at {sm:Bool}{l:List Stp}{at_:List Rat}{n:Nat}(h:terr sm l at_ n=0):∀ k,k<n→serr sm (l.getD k stp0) (tvals l at_ k)=0:=by
  induction n with
  | zero=>intro k hk;omega
  | succ n ih =>
    intro k hk
    have h2:terr sm l at_ n=0:=by
      refine Classical.byContradiction fun hn=>?_
      have:terr sm l at_ (n+1)=terr sm l at_ n:=terr_bad hn 1;exact hn (by rw[←this];exact h)
    by_cases e:k=n
    · subst e
      have:terr sm l at_ (k+1)=serr sm (l.getD k stp0) (tvals l at_ k):=by show (if _=0 then _ else _)=_;rw[if_pos h2]
      rw[←this];exact h
    · exact ih h2 k oM
theorem ok_at {inp:Int}{sm:Bool}{l:List Stp}{at_:List Rat}{k n:Nat}(h:terr sm l at_ n=0)(hk:k<n)(_:∀ k,k<l.length→Formed inp k (l.getD k stp0)):(l.getD k stp0).op≠2→okq (l.getD k stp0).op (l.getD k stp0).n ((tvals l at_ k).getD (l.getD k stp0).a.toNat 0) ((tvals l at_ k).getD (l.getD k stp0).b.toNat 0):=fun h2=>by
  have:=terr_at h k hk;refine Classical.byContradiction fun hn=>?_
  rw[serr_6 h2 hn] at this
  exact absurd this kD
theorem ok_use {l:List Stp}{at_ L:List Rat}{k:Nat}{s:Stp}(hL:L=tvals l at_ l.length)(ho:s.op≠2→okq s.op s.n ((tvals l at_ k).getD s.a.toNat 0) ((tvals l at_ k).getD s.b.toNat 0))(h2:s.op≠2)(hk:k≤l.length)(ha:s.op=6∨s.op=8→s.a.toNat<k)(hb:s.op=6→s.b.toNat<k)(_:True:=trivial) :
    (s.op=6→L.getD s.b.toNat 0≠0)∧(s.op=8→s.n<0→L.getD s.a.toNat 0≠0):=by
  obtain ⟨h6,h8⟩:=ho h2;refine ⟨fun e=>?_,fun e e2=>?_⟩
  · rw[vl_get hL (hb e) hk];exact h6 e
  · rw[vl_get hL (ha (.inr e)) hk];exact h8 e e2
theorem lq_set {D:List Rat}{k B:Nat}{x:Rat}(h:∀ j,LQ B (D.getD j 0))(hx:LQ B x)(j:Nat):LQ B ((D.set k x).getD j 0):=by
  by_cases hk:k<D.length
  · rw[getD_set_ hk];split
    · exact hx
    · exact h j
  · rw[List.set_eq_of_length_le oM];exact h j
def forE (inp:Int)(l:List Stp)(os:List Int)(at_ way:List Rat):Int:=if chkTp inp l os=0 then (if (at_.length:Int)=inp∧(way.length:Int)=inp then terr true l at_ l.length else 5) else 1
def forL (inp:Int)(l:List Stp)(os:List Int)(at_ way vs:List Rat):List Rat:=if forE inp l os at_ way=0 then pickL vs os else []
section
variable {inp:Int} {l:List Stp} {os:List Int} {at_ way:List Rat}
theorem for_n {e:Int}(h:forE inp l os at_ way=e)(he:e≠0):forE inp l os at_ way=e∧forL inp l os at_ way (tvals l at_ l.length)=[]∧forL inp l os at_ way (tders l at_ way l.length)=[] :=
  ⟨h,if_neg (by rw[h];exact he),if_neg (by rw[h];exact he)⟩
theorem for_1 (h:chkTp inp l os≠0):forE inp l os at_ way=1∧forL inp l os at_ way (tvals l at_ l.length)=[]∧forL inp l os at_ way (tders l at_ way l.length)=[]:=for_n (if_neg h) kD
theorem for_5 (h:chkTp inp l os=0)(h2:¬((at_.length:Int)=inp∧(way.length:Int)=inp)):forE inp l os at_ way=5∧forL inp l os at_ way (tvals l at_ l.length)=[]∧forL inp l os at_ way (tders l at_ way l.length)=[]:=for_n (by unfold forE;rw[if_pos h,if_neg h2]) kD
theorem for_e (h:chkTp inp l os=0)(h2:(at_.length:Int)=inp)(h3:(way.length:Int)=inp)(h4:terr true l at_ l.length≠0):forE inp l os at_ way=terr true l at_ l.length∧forL inp l os at_ way (tvals l at_ l.length)=[]∧forL inp l os at_ way (tders l at_ way l.length)=[]:=for_n (by unfold forE;rw[if_pos h,if_pos ⟨h2,h3⟩]) h4
theorem for_0 (h:chkTp inp l os=0)(h2:(at_.length:Int)=inp)(h3:(way.length:Int)=inp)(h4:terr true l at_ l.length=0):forE inp l os at_ way=0∧forL inp l os at_ way (tvals l at_ l.length)=pickL (tvals l at_ l.length) os∧forL inp l os at_ way (tders l at_ way l.length)=pickL (tders l at_ way l.length) os:=by
  have e:forE inp l os at_ way=0:=by unfold forE;rw[if_pos h,if_pos ⟨h2,h3⟩,h4]
  exact ⟨e,if_pos e,if_pos e⟩
end
structure Dif (M:List Nat) (w w0:World):Prop where
  mo:Mo M w w0
  sz:w0.heap.size=w.heap.size
section frn
variable {w0 w w' wi:World} {h0 h h':Hp} {B:List Bx} {R:List Rw} {F:List (Hp→Prop)} {M:List Nat}
end frn
section get
variable {P:Program} {n:Nat} {N R:Po} {X:Nat→Po} {ops:Array Oper} {k:Nat} {Γ:Env} {w:World} {h:Hp} {w0:World} {h0:Hp} {B:List Bx} {Rs:List Rw} {F:List (Hp→Prop)}
end get
section gete
variable {M:Ms} {P:Program} {n:Nat} {N R:Po} {X:Nat→Po} {ops:Array Oper} {k0:Nat} {hr:Hp} {AL:List Al} {L:Array Bool} {Γ:Env} {w:World} {h:Hp} {w0:World} {h0:Hp} {B:List Bx} {Rs:List Rw} {F:List (Hp→Prop)}
theorem eQe {α:Type}(i t j:Nat)(l:List α)(f:α→List Value)(sz:Nat)(d:α)(e:Nat)(u v:Value)(s:SS w0 h0 w h B Rs F)(hk:e<l.length)(hv:u=v)(H:EG M P n N R X ops k0 hr AL (L.setIfInBounds i true) ((t,v)::Γ) w h)(hM:(bxAt B j).b ∉ M.l:=by exact List.not_mem_nil)(hc:cEl n ops k0 AL L Γ i t=true:=by kernel_rfl)
    (hj:decide (j<B.length)=true:=by kernel_rfl)(hB:(bxAt B j).vs=l.flatMap f:=by kernel_rfl)(hf:∀ x,(f x).length=sz:=by intro _;rfl)
    (he:evalL P (execOp (ev Γ) (opAt ops i)) (f (l.getD e d))=some (.value u,mka (bxAt B j).b (0+e*sz) (f (l.getD e d)).length):=by kernel_rfl):EG M P n N R X ops k0 hr AL L Γ w h:=by
  subst hv;exact eQ i t j l f sz d e u s hk H hM hc hj hB hf he
end gete
end Go.Proofs.YtmkcmnhnmajheaaGreatDoor
