/- Laws of this claim, part 4. -/
import Derived.Test.YtbbhdbhkaacnnaaGreatDoorQm0
import Derived.Test.YtbbhdbhkaacnnaaGreatDoorQm1
import Derived.Test.YtbbhdbhkaacnnaaGreatDoorQm2
set_option maxRecDepth 100000
set_option maxHeartbeats 4000000
namespace Go.Proofs.YtbbhdbhkaacnnaaGreatDoor
open _root_.Array renaming getElem?_eq_some_iff -> g3, getElem?_push_size -> e0, getElem?_setIfInBounds_ne -> g6, getElem?_setIfInBounds_self_of_lt -> yy
open Bool renaming and_eq_true -> hN, noConfusion -> Ki, not_not -> Kg
open Int renaming lt_trichotomy -> J3, mul_ediv_cancel_left -> J2, mul_neg_of_neg_of_pos -> Kb, mul_pos -> Kc, natAbs_mul -> J0, natAbs_natCast -> J1, sign_eq_neg_one_of_neg -> J4, sign_eq_one_of_pos -> J5, sign_eq_zero_iff_zero -> Kh
open List renaming all_eq_true -> i3, getD_eq_getElem?_getD -> B1, getElem?_eq_none -> pk, mem_map -> ga, mem_singleton -> o0, replicate -> um
open Nat renaming div_le_self -> zF, eq_zero_or_pos -> yz, gcd -> JI, gcd_le_right -> Ka, le_mul_of_pos_left -> J6, le_refl -> eb, le_trans -> ed, lt_or_ge -> co, lt_succ_iff_lt_or_eq -> Kf, min_eq_right -> I8, mul_comm -> z2, mul_le_mul -> Jo, not_lt_zero -> Ke, pow_le_pow_right -> A4, pow_succ -> z1, zero_le -> JF
open Rat renaming den_intCast -> J9, num_eq_zero -> Kd, num_intCast -> J7
open Go.RowKit
open Go.RowKit Go.Shelf
theorem pT (z:Int)(b:Nat)(e:(b:Int)∣z):bE (decide (z.sign<0)) (ab z/b)=z/b:=by
 obtain ⟨k,rfl⟩:=e
 rcases yz b with hb|hb
 ·subst hb;simp[bE,ab]
 have c:ab ((b:Int)*k)/b=k.natAbs:=by
  unfold ab
  rw[J0,J1,Nat.mul_div_cancel_left _ hb]
 have a:((b:Int)*k)/b=k:=J2 _ oM;have d:((b:Int)*k).sign=k.sign:=by rw[Int.sign_mul,Int.sign_natCast_of_ne_zero oM,Int.one_mul]
 rw[c,a,d]
 unfold bE
 rcases J3 k 0 with h|h|h
 ·rw[J4 h];simp;omega
 ·subst h;simp
 ·rw[J5 h];simp;omega
theorem ig (n:Int)(d:Nat)(b:0<d):(mkRat n d).num=n/(JI (ab n) d:Nat)/\(mkRat n d).den=d/JI (ab n) d/\((JI (ab n) d:Nat):Int)∣n/\0<JI (ab n) d:=by
 have a:((JI (ab n) d:Nat):Int)∣n:=by
  have h1:JI (ab n) d∣n.natAbs:=Nat.gcd_dvd_left _ _;exact Int.dvd_trans (Int.natCast_dvd_natCast.2 h1) (Int.natAbs_dvd.2 (Int.dvd_refl _))
 unfold mkRat
 rw[dif_neg oM,Rat.normalize_eq];exact ⟨rfl,rfl,a,Nat.gcd_pos_of_pos_right _ b⟩
def LQ (k:Nat)(q:Rat):Prop:=(wds (ab q.num)).length<=k/\(wds q.den).length<=k
theorem lg (n:Nat)(w:World)(h:Hp)(g:G w h):CV 186 #[.bool false,nv n] w h (iv (n:Int)):=xU n w h g
theorem Gb (x y:Int)(d:Nat)(e:d=JI (ab x) (ab y))(a:(wds (ab x)).length<=1000000000)(b:(wds (ab y)).length<=1000000000)(w:World)(h:Hp)(g:G w h)(c:Tab h):CV 220 #[iv x,iv y] w h (nv d):=by
 subst e;exact Ia x y a b w h g c
theorem xC {n:Nat}:nb n=1↔n=1:=by
 rcases yz n with h|h
 ·subst h;simp[nb]
 ·have h1:=cl h
  constructor
  ·intro e;rw[e] at h1;omega
  ·intro e;subst e;rfl
theorem ki {n:Nat}:nb n=0↔n=0:=by
 rcases l6 n with ⟨h1,h2⟩|⟨h1,h2⟩<;>omega
theorem lr {q:Rat}(h:q.den=1):qd q=0:=by unfold qd;rw[if_pos h]
theorem Dm {q:Rat}(h:q.den≠1):qd q=q.den:=by unfold qd;rw[if_neg h]
theorem AC {q:Rat}:qd q=0↔q.den=1:=by
 unfold qd
 have:=q.den_pos
 split<;>omega
theorem IL (q:Rat):(((nb (qd q):Nat):Int) == (0:Int))=decide (q.den=1):=by
 rw[Bool.eq_iff_iff]
 simp only[beq_iff_eq,decide_eq_true_eq]
 rw[<-AC,<-ki]
 omega
theorem jR {q:Rat}{z:Int}{d:Nat}(hz:q.num=z)(a:qd q=d):Value.agg #[.bool (au z),.int .u64 (lo (ab z)),.string (hi (ab z)),.int .u64 (lo d),.string (hi d)]=qv q:=by subst hz a;rfl
theorem LQ.qd {k:Nat}{q:Rat}(h:LQ k q):(wds (qd q)).length<=k:=by
 unfold Go.Proofs.YtbbhdbhkaacnnaaGreatDoor.qd
 split
 ·exact JF _
 ·exact h.2
theorem FP (a:Rat)(ha:LQ 1000000000 a)(w:World)(h:Hp)(g:G w h):CV 221 #[iv a.num,nv a.den] w h (qv a):=by
 have b:=sS g;obtain ⟨j,i⟩:=ha;have f:=@xC a.den;refine go Tryz.func221 [(0,iv a.num),(1,nv a.den)] rfl (aG (lA 2 26 (ic a.num) b (fun l w2 y b=>lA 3 24 (nc a.den) b (fun z k x b=>lA 4 28 a1 b (fun p B u b=>ai (aa b [.o (nv a.den) 1 0 2] (aq 6 b (eJ a.den ip _ _ b.g) (fun _ _ b=>?_))))))));cases c:(((nb a.den:Nat):Int) == (1:Int))
 .
  have e:=ao c;exact lB 7 c (ah (cK (aa b [.o (iv a.num) 2 0 3,.o (nv a.den) 1 0 2,.v (.agg #[.bool (au a.num),uV (lo (ab a.num)),.string (hi (ab a.num)),uV (lo a.den),.string (hi a.den)])] (lP 0 0 ([.bool (au a.num),uV (lo (ab a.num)),.string (hi (ab a.num)),uV (lo a.den),.string (hi a.den)]) b (fun _ b=>af b [(0,0,5)] (.agg #[.bool (au a.num),uV (lo (ab a.num)),.string (hi (ab a.num)),uV (lo a.den),.string (hi a.den)]) (jR (q:=a) (d:=a.den) rfl (Dm oM)))))))
 have e:=eq_of_beq c;exact lB 7 c (ak (aa b [.o (iv a.num) 2 0 3,.v (.agg #[.bool (au a.num),uV (lo (ab a.num)),.string (hi (ab a.num)),uV 0,eS])] (lP 0 0 ([.bool (au a.num),uV (lo (ab a.num)),.string (hi (ab a.num)),uV 0,eS]) b (fun _ b=>af b [(0,0,5)] (.agg #[.bool (au a.num),uV (lo (ab a.num)),.string (hi (ab a.num)),uV 0,eS]) (jR (q:=a) (d:=0) rfl (lr oM))))))
theorem EZ (q:Rat)(z:Int)(d:Nat)(hz:q.num=z)(b:d=q.den)(a:LQ 1000000000 q)(w:World)(h:Hp)(g:G w h):CV 221 #[iv z,nv d] w h (qv q):=by
 subst hz b;exact FP q a w h g
theorem oJ (z:Int)(g:Nat)(a:(g:Int)∣z):ab (z/g)<=ab z:=by
 unfold ab
 rcases yz g with h|h
 ·subst h;simp
 ·obtain ⟨k,rfl⟩:=a
  rw[J2 _ oM,J0,J1];exact J6 _ h
theorem C7 (a b:Nat)(B:0<b)(k:(wds a).length<=1000000000)(l:(wds b).length<=1000000000)(w:World)(h:Hp)(g:G w h):CV 223 #[nv a,nv b] w h (nv (a/b)):=by
 have d:=sS g;have j:=@xC b;refine go Tryz.func223 [(0,nv a),(1,nv b)] rfl (aG (lA 2 24 (nc a) d (fun x w2 D d=>lA 3 24 (nc b) d (fun F u C d=>lA 4 24 ([uV 0,eS]) d (fun y H z d=>ai (aa d [.o (nv b) 1 0 2] (aq 9 d (eJ b ip _ _ d.g) (fun _ _ d=>?_))))))));cases e:(((nb b:Nat):Int) == (1:Int))
 .
  have f:=ao e;exact lB 10 e (ah (cK (aa d [.o (nv a) 2 0 2,.o (nv b) 1 0 2] (aq 15 d (Fy a b oM aM aM _ _ d.g) (fun _ _ d=>lL d [.c,.v (nv (a/b)),.v (nv (a%b)),.v qT] (lA 5 24 ([uV 0,eS]) d (fun p _ _ d=>lA 6 24 ([uV 0,eS]) d (fun i _ _ d=>lP 1 0 (nc (a/b)) d (fun _ d=>lP 0 0 (nc (a%b)) d (fun _ d=>lL d ac (aE (lL d [.o (nv (a/b)) 1 0 2] (lP 2 0 (nc (a/b)) d (fun _ d=>af d [(2,0,2)] (nv (a/b)) rfl))))))))))))))
 have f:=eq_of_beq e;exact lB 10 e (ak (aa d [.o (nv a) 2 0 2] (lP 0 0 (nc a) d (fun _ d=>af d [(0,0,2)] (nv a) (by rw[show b=1 by omega,Nat.div_one])))))
theorem F8 (z:Int)(b:Nat)(o:0<b)(d:(b:Int)∣z)(c:(wds (ab z)).length<=1000000000)(e:(wds b).length<=1000000000)(w:World)(h:Hp)(g:G w h):CV 222 #[iv z,nv b] w h (iv (z/b)):=by
 have a:=sS g;have f:(wds (ab z/b)).length<=1000000000:=cn (zF _ _) c;refine go Tryz.func222 [(0,iv z),(1,nv b)] rfl (aG (lA 2 26 (ic z) a (fun j w2 u a=>lA 3 24 (nc b) a (fun x i p a=>lA 4 26 ([qF,uV 0,eS]) a (fun k y l a=>ai (cR 8 [] mixed a aw ?_))))));exact eO 0 5 [(2,0,3)] (iv z) a (eO 3 8 [(2,0,3)] (iv z) a (eO 5 10 [(1,0,2)] (nv b) a (aK 1 6 a (fun _ _ a=>mZ z ip _ _ a.g) (fun _ _ a=>eV 2 7 (.bool (decide (((z).sign:Int)<(0:Int)))) (aK 4 9 a (fun _ _ a=>El z _ _ a.g) (fun _ _ a=>aK 6 11 a (fun _ _ a=>C7 (ab z) b aM ip ip _ _ a.g) (fun _ _ a=>aK 7 12 a (fun _ _ a=>gU (decide (((z).sign:Int)<(0:Int))) ((ab z)/b) ip _ _ a.g) (fun _ _ a=>cG a (fun _ _ a=>tP 8 0 0 (ic (bE (decide (((z).sign:Int)<(0:Int))) ((ab z)/b))) a (fun _ a=>tN (kX (a.ret [(0,0,3)] (iv (bE (decide (((z).sign:Int)<(0:Int))) ((ab z)/b))) (congrArg iv (pT z b d))))))))))))))
theorem nE (z:Int)(d:Nat)(j:(wds (ab z)).length+(wds d).length<=1000000000)(w:World)(h:Hp)(g:G w h):CV 155 #[iv z,nv d] w h (iv (z*d)):=by
 have a:=sS g;refine go Tryz.func155 [(0,iv z),(1,nv d)] rfl (aG (lA 2 26 (ic z) a (fun c w2 l a=>lA 3 24 (nc d) a (fun b f e a=>lA 4 26 ([qF,uV 0,eS]) a (fun k o i a=>ai (cR 4 [] mixed a aw ?_))))));exact eO 0 5 [(2,0,3)] (iv z) a (eO 1 6 [(1,0,2)] (nv d) a (aK 2 7 a (fun _ _ a=>lg d _ _ a.g) (fun _ _ a=>aK 3 8 a (fun _ _ a=>Hx z (d:Int) ip _ _ a.g) (fun _ _ a=>cG a (fun _ _ a=>tP 4 0 0 (ic (z*(d:Int))) a (fun _ a=>tN (kX (a.ret [(0,0,3)] (iv (z*(d:Int))) rfl))))))))
theorem ie (a:Rat)(ha:LQ 100000000 a)(w:World)(h:Hp)(g:G w h):CV 83 #[qv a] w h (.bool (decide (a.den=1))):=by
 have b:=sS g;have e:=ha.qd;exact go Tryz.func83 [(0,qv a)] rfl (aG (lA 1 28 (qc a) b (fun d w2 j b=>lL b ac (aE (lL b [.v (qP d 3),.o (nv (qd a)) 0 3 2] (aq 5 b (eJ (qd a) ip _ _ b.g) (fun f i b=>lL b [.v (.bool (((nb (qd a):Nat):Int) == (0:Int))),.c] (af b [] (.bool (((nb (qd a):Nat):Int) == (0:Int))) (congrArg Value.bool (IL a))))))))))
theorem wn (a:Rat)(ha:LQ 100000000 a)(w:World)(h:Hp)(g:G w h):CV 70 #[qv a] w h (nv a.den):=by
 have b:=sS g;refine go Tryz.func70 [(0,qv a)] rfl (aG (lA 1 28 (qc a) b (fun e w2 p b=>lA 2 24 ([uV 0,eS]) b (fun f k j b=>ai (aa b [.o (qv a) 1 0 5] (aq 4 b (ie a aM _ _ b.g) (fun i l b=>?_)))))));cases c:(decide (a.den=1))
 .
  have d:=oF c;exact ah (cK (aa b [.v (qP e 3),.o (nv (qd a)) 1 3 2] (lP 0 0 (nc (qd a)) b (fun _ b=>af b [(0,0,2)] (nv (qd a)) (by rw[Dm (by simpa using (by assumption:decide (a.den=1)=false))])))))
 have d:=oT c;exact ak (aG (aq 5 b (EP 1 oM _ _ b.g) (fun _ _ b=>lP 0 0 (nc 1) b (fun _ b=>af b [(0,0,2)] (nv 1) (by rw[show a.den=1 by simpa using (by assumption:decide (a.den=1)=true)])))))
theorem H9 (a:Rat)(w:World)(h:Hp)(g:G w h):CV 68 #[qv a] w h (iv a.num):=by
 have b:=sS g;exact go Tryz.func68 [(0,qv a)] rfl (aG (lA 1 28 (qc a) b (fun c w2 j b=>lA 2 26 ([qF,uV 0,eS]) b (fun d i f b=>aE (lL b [.v (pB c),.o (iv a.num) 1 0 3] (lP 0 0 (ic a.num) b (fun e b=>af b [(0,0,3)] (iv a.num) rfl)))))))
theorem mE (a:Rat)(ha:LQ 100000000 a)(w:World)(h:Hp)(g:G w h):CV 43 #[qv a] w h (iV a.num.sign):=by
 have b:=sS g;obtain ⟨e,d⟩:=ha;exact go Tryz.func43 [(0,qv a)] rfl (aG (lA 1 28 (qc a) b (fun c w2 j b=>lL b ac (aE (lL b [.v (pB c),.o (iv a.num) 0 0 3] (aq 5 b (mZ a.num ip _ _ b.g) (fun f i b=>lL b ac (af b [] (iV ((a.num).sign)) rfl))))))))
theorem IC (z:Int)(h0 : -9223372036854775808<=z)(h1:z<=9223372036854775807)(w:World)(h:Hp)(g:G w h):CV 89 #[iV z] w h (qv (z:Rat)):=by
 have a:=sS g;exact go Tryz.func89 [(0,iV z)] rfl (aG (lA 2 28 a1 a (fun b w2 i a=>aE (lL a ac (aq 4 a (IY z oM oM _ _ a.g) (fun e f a=>lL a [.v (.agg #[.bool (au z),uV (lo (ab z)),.string (hi (ab z)),uV 0,eS])] (lP 0 0 ([.bool (au z),uV (lo (ab z)),.string (hi (ab z)),uV 0,eS]) a (fun c a=>af a [(0,0,5)] (.agg #[.bool (au z),uV (lo (ab z)),.string (hi (ab z)),uV 0,eS]) (jR (d:=0) (J7 z) (lr (J9 z)))))))))))
theorem iW (z:Int)(d:Nat)(o:0<d)(k:(wds (ab z)).length<=1000000000)(i:(wds d).length<=1000000000)(w:World)(h:Hp)(g:G w h)(p:Tab h):CV 192 #[iv z,nv d] w h (qv (mkRat z d)):=by
 have a:=((sS g).add (K:=fun y=>Tab y) p);obtain ⟨b,c,e,l⟩:=ig z d o;obtain ⟨q,hq⟩:∃ q,q=JI (ab z) d:=⟨_,rfl⟩;rw[<-hq] at b c e l
 have B:(wds q).length<=1000000000:=cn (by rw[hq];exact Ka _ o) i;have x:LQ 1000000000 (mkRat z d):=⟨by rw[b];exact cn (oJ z q e) k,by rw[c];exact cn (zF _ _) i⟩;refine go Tryz.func192 [(0,iv z),(1,nv d)] rfl (aG (lA 2 26 (ic z) a (fun D w2 J a=>lA 3 24 (nc d) a (fun L C I a=>lA 4 28 a1 a (fun F M H a=>ai ?_)))));have j:=a;refine cR 5 [⟨4,5,.cells (List.toArray [uV 0,eS]) 24 (0,0)⟩] mixed a (dZ (kW kR (fun _ _=>by kernel_rfl)) aw) (eO 0 6 [(2,0,3)] (iv z) a (eO 1 7 [(1,0,2)] (nv d) a (aK 2 8 a (fun _ _ a=>lg d _ _ a.g) (fun _ _ a=>aK 3 9 a (fun _ _ a=>Gb z (d:Int) q (by first|assumption|exact hq) ip (show (wds d).length<=1000000000 by first|assumption|omega) _ _ a.g a.f.1) (fun _ _ a=>G7 [] j a 24 [uV 0,eS] (fun _ _ u a=>tP 5 0 0 (nc q) a (fun _ a=>tN (cQ (cR 7 [] mixed a aw ?_)))))))));exact eO 0 10 [(3,0,3)] (iv z) a (eO 1 11 [(0,0,2)] (nv q) a (eO 3 13 [(2,0,2)] (nv d) a (eO 4 14 [(0,0,2)] (nv q) a (aK 2 12 a (fun _ _ a=>F8 z q aM aM ip ip _ _ a.g) (fun _ _ a=>aK 5 15 a (fun _ _ a=>C7 d q aM ip ip _ _ a.g) (fun _ _ a=>aK 6 16 a (fun _ _ a=>EZ (mkRat z d) (z/(q:Int)) (d/q) (by first|assumption|exact b|exact (b).symm) (by first|assumption|exact c.symm) aM _ _ a.g) (fun _ _ a=>cG a (fun _ _ a=>tP 7 1 0 (qc (mkRat z d)) a (fun _ a=>tN (kX (a.ret [(1,0,5)] (qv (mkRat z d)) rfl)))))))))))
theorem jH (a:Rat)(ha:LQ 100000000 a)(h1:a.den=1)(w:World)(h:Hp)(g:G w h):CV 83 #[qv a] w h (.bool true):=by
 have:=ie a ha w h g;rwa [decide_eq_true h1] at this
theorem mH (a:Rat)(ha:LQ 100000000 a)(h1:a.den≠1)(w:World)(h:Hp)(g:G w h):CV 83 #[qv a] w h (.bool false):=by
 have:=ie a ha w h g;rwa [decide_eq_false h1] at this
theorem ut (x y:Int):(wds (ab (x*y))).length<=(wds (ab x)).length+(wds (ab y)).length:=by
 have:ab (x*y)=ab x*ab y:=J0 x y;rw[this];exact j6
theorem fy (x:Int)(d:Nat):(wds (ab (x*((d:Nat):Int)))).length<=(wds (ab x)).length+(wds d).length:=ut x (d:Int)
theorem LQ.mono {k l:Nat}{a:Rat}(h:LQ k a)(b:k<=l):LQ l a:=⟨ed h.1 b,ed h.2 b⟩
def fs (a b:Rat):Int:=dS (a.num*b.den) (b.num*a.den)
theorem fg {a b:Rat}(h1:a.den=1)(c:b.den=1):dS a.num b.num=fs a b:=by unfold fs;rw[h1,c];simp
theorem f2 {a b:Rat}(h:(a.num.sign != b.num.sign)=true):dS a.num b.num=fs a b:=by
 have h:a.num.sign≠b.num.sign:=by simpa using h
 have ha:=a.den_pos;have e:=b.den_pos
 unfold fs dS
 rcases J3 a.num 0 with p|p|p<;>rcases J3 b.num 0 with q|q|q
 ·exact absurd (by rw[J4 p,J4 q]) h
 ·have:a.num*(b.den:Int)<0:=Kb p oM
  rw[q];simp;rw[if_pos p,if_pos this]
 ·have c:a.num*(b.den:Int)<0:=Kb p oM
  have d:0<b.num*(a.den:Int):=Kc q oM;rw[if_pos oM,if_pos oM]
 ·have:b.num*(a.den:Int)<0:=Kb q oM
  rw[p];simp;rw[if_neg oM,if_pos q,if_neg oM,if_pos this]
 ·exact absurd (by rw[p,q]) h
 ·have:0<b.num*(a.den:Int):=Kc q oM
  rw[p];simp;rw[if_pos q,if_pos this]
 ·have c:0<a.num*(b.den:Int):=Kc p oM
  have d:b.num*(a.den:Int)<0:=Kb q oM;rw[if_neg oM,if_pos oM,if_neg oM,if_pos oM]
 ·have:0<a.num*(b.den:Int):=Kc p oM
  rw[q];simp;rw[if_neg oM,if_pos p,if_neg oM,if_pos this]
 ·exact absurd (by rw[J5 p,J5 q]) h
theorem Fs (a b:Rat)(ha:LQ 100000000 a)(u:LQ 100000000 b)(f:a.den=1)(i:b.den=1)(w:World)(h:Hp)(g:G w h):CV 119 #[qv a,qv b] w h (iV (fs a b)):=by
 have c:=sS g;have d:=ha;have e:=u;obtain ⟨B,z⟩:=d;obtain ⟨j,x⟩:=e;have p:=fy a.num b.den;have k:=fy b.num a.den;refine go Tryz.func119 [(0,qv a),(1,qv b)] rfl (aG (lA 2 28 (qc a) c (fun l w2 I c=>lA 3 28 (qc b) c (fun y D H c=>lL c ac (ai (cQ (cR 13 [] mixed c aw ?_)))))));exact eO 0 5 [(1,0,5)] (qv a) c (aK 1 6 c (fun _ _ c=>jH a aM aM _ _ c.g) (fun C J c=>eV 2 7 qT (eO 3 8 [(0,0,5)] (qv b) c (aK 4 9 c (fun _ _ c=>jH b aM aM _ _ c.g) (fun F _ c=>eV 5 10 qT (eV 6 11 qT (eG 7 12 (eG 8 13 (eG 9 14 (eG 10 15 (eG 11 16 (eV 12 17 qT (cG c (fun _ _ c=>tN (ci (aa c [.v (pB l),.o (iv a.num) 1 0 3,.v (pB y),.o (iv b.num) 0 0 3] (aq 22 c (xu a.num b.num ip ip _ _ c.g) (fun _ _ c=>lL c ac (af c [] (iV (dS a.num b.num)) (congrArg (Value.int .i64) (by first|rfl|exact fg f i|exact f2 ‹_›)))))))))))))))))))))
theorem E3 (a b:Rat)(ha:LQ 100000000 a)(y:LQ 100000000 b)(d:a.den≠1)(w:World)(h:Hp)(g:G w h):CV 119 #[qv a,qv b] w h (iV (fs a b)):=by
 have c:=sS g;have f:=ha;have i:=y;obtain ⟨C,B⟩:=f;obtain ⟨p,z⟩:=i;have x:=fy a.num b.den;have u:=fy b.num a.den;refine go Tryz.func119 [(0,qv a),(1,qv b)] rfl (aG (lA 2 28 (qc a) c (fun j w2 J c=>lA 3 28 (qc b) c (fun k F I c=>lL c ac (ai (cQ (cR 13 [] mixed c aw ?_)))))));refine eO 0 5 [(1,0,5)] (qv a) c (aK 1 6 c (fun _ _ c=>mH a aM aM _ _ c.g) (fun D K c=>eV 2 7 qF (eG 3 8 (eG 4 9 (eV 5 10 qF (eV 6 11 qF (eO 7 12 [(1,0,5)] (qv a) c (eO 9 14 [(0,0,5)] (qv b) c (aK 8 13 c (fun _ _ c=>mE a aM _ _ c.g) (fun H _ c=>aK 10 15 c (fun _ _ c=>mE b aM _ _ c.g) (fun _ _ c=>?_)))))))))));cases e:(((a.num).sign:Int) != ((b.num).sign:Int))
 .
  have l:=az e;refine eB 11 16 e (eV 12 17 qF (cG c (fun _ _ c=>tN (cV (cK (cQ (cR 11 [] mixed c aw ?_)))))));exact eV 0 23 (pB j) (eO 1 24 [(1,0,3)] (iv a.num) c (eO 2 25 [(0,0,5)] (qv b) c (eV 5 28 (pB k) (eO 6 29 [(0,0,3)] (iv b.num) c (eO 7 30 [(1,0,5)] (qv a) c (aK 3 26 c (fun _ _ c=>wn b aM _ _ c.g) (fun _ _ c=>aK 4 27 c (fun _ _ c=>nE a.num b.den ip _ _ c.g) (fun _ _ c=>aK 8 31 c (fun _ _ c=>wn a aM _ _ c.g) (fun _ _ c=>aK 9 32 c (fun _ _ c=>nE b.num a.den ip _ _ c.g) (fun _ _ c=>aK 10 33 c (fun _ _ c=>xu (a.num*(b.den:Int)) (b.num*(a.den:Int)) ip ip _ _ c.g) (fun _ _ c=>cG c (fun _ _ c=>tV 11 4 (iV (dS (a.num*(b.den:Int)) (b.num*(a.den:Int)))) (tN (kX (c.ret [] (iV (dS (a.num*(b.den:Int)) (b.num*(a.den:Int)))) (congrArg (Value.int .i64) (by first|rfl|exact fg d hwb|exact f2 ‹_›)))))))))))))))))
 have l:=a7 e;exact eB 11 16 e (eV 12 17 qT (cG c (fun _ _ c=>tN (ci (aa c [.v (pB j),.o (iv a.num) 1 0 3,.v (pB k),.o (iv b.num) 0 0 3] (aq 22 c (xu a.num b.num ip ip _ _ c.g) (fun _ _ c=>lL c ac (af c [] (iV (dS a.num b.num)) (congrArg (Value.int .i64) (by first|rfl|exact fg d hwb|exact f2 ‹_›))))))))))
theorem Fi (a b:Rat)(ha:LQ 100000000 a)(z:LQ 100000000 b)(d:a.den=1)(e:b.den≠1)(w:World)(h:Hp)(g:G w h):CV 119 #[qv a,qv b] w h (iV (fs a b)):=by
 have c:=sS g;have i:=ha;have j:=z;obtain ⟨D,C⟩:=i;obtain ⟨u,B⟩:=j;have y:=fy a.num b.den;have x:=fy b.num a.den;refine go Tryz.func119 [(0,qv a),(1,qv b)] rfl (aG (lA 2 28 (qc a) c (fun k w2 K c=>lA 3 28 (qc b) c (fun l H J c=>lL c ac (ai (cQ (cR 13 [] mixed c aw ?_)))))));refine eO 0 5 [(1,0,5)] (qv a) c (aK 1 6 c (fun _ _ c=>jH a aM aM _ _ c.g) (fun F L c=>eV 2 7 qT (eO 3 8 [(0,0,5)] (qv b) c (aK 4 9 c (fun _ _ c=>mH b aM aM _ _ c.g) (fun I _ c=>eV 5 10 qF (eV 6 11 qF (eO 7 12 [(1,0,5)] (qv a) c (eO 9 14 [(0,0,5)] (qv b) c (aK 8 13 c (fun _ _ c=>mE a aM _ _ c.g) (fun _ _ c=>aK 10 15 c (fun _ _ c=>mE b aM _ _ c.g) (fun _ _ c=>?_)))))))))));cases f:(((a.num).sign:Int) != ((b.num).sign:Int))
 .
  have p:=az f;refine eB 11 16 f (eV 12 17 qF (cG c (fun _ _ c=>tN (cV (cK (cQ (cR 11 [] mixed c aw ?_)))))));exact eV 0 23 (pB k) (eO 1 24 [(1,0,3)] (iv a.num) c (eO 2 25 [(0,0,5)] (qv b) c (eV 5 28 (pB l) (eO 6 29 [(0,0,3)] (iv b.num) c (eO 7 30 [(1,0,5)] (qv a) c (aK 3 26 c (fun _ _ c=>wn b aM _ _ c.g) (fun _ _ c=>aK 4 27 c (fun _ _ c=>nE a.num b.den ip _ _ c.g) (fun _ _ c=>aK 8 31 c (fun _ _ c=>wn a aM _ _ c.g) (fun _ _ c=>aK 9 32 c (fun _ _ c=>nE b.num a.den ip _ _ c.g) (fun _ _ c=>aK 10 33 c (fun _ _ c=>xu (a.num*(b.den:Int)) (b.num*(a.den:Int)) ip ip _ _ c.g) (fun _ _ c=>cG c (fun _ _ c=>tV 11 4 (iV (dS (a.num*(b.den:Int)) (b.num*(a.den:Int)))) (tN (kX (c.ret [] (iV (dS (a.num*(b.den:Int)) (b.num*(a.den:Int)))) (congrArg (Value.int .i64) (by first|rfl|exact fg d e|exact f2 ‹_›)))))))))))))))))
 have p:=a7 f;exact eB 11 16 f (eV 12 17 qT (cG c (fun _ _ c=>tN (ci (aa c [.v (pB k),.o (iv a.num) 1 0 3,.v (pB l),.o (iv b.num) 0 0 3] (aq 22 c (xu a.num b.num ip ip _ _ c.g) (fun _ _ c=>lL c ac (af c [] (iV (dS a.num b.num)) (congrArg (Value.int .i64) (by first|rfl|exact fg d e|exact f2 ‹_›))))))))))
theorem HM (a b:Rat)(ha:LQ 100000000 a)(c:LQ 100000000 b)(w:World)(h:Hp)(g:G w h):CV 119 #[qv a,qv b] w h (iV (fs a b)):=by
 by_cases h1:a.den=1
 ·by_cases h2:b.den=1
  ·exact Fs a b ha c h1 h2 w h g
  ·exact Fi a b ha c h1 h2 w h g
 ·exact E3 a b ha c h1 w h g
def ne (n d:Int):Rat:=mkRat (if d<0 then -n else n) (ab d)
theorem DC (n d:Int)(l:0<d)(y:(wds (ab n)).length<=1000000000)(z:(wds (ab d)).length<=1000000000)(w:World)(h:Hp)(g:G w h)(i:Tab h):CV 188 #[iv n,iv d] w h (.tuple #[qv (ne n d),.bool true]):=by
 have a:=((sS g).add (K:=fun x=>Tab x) i);have j:=J5 l;have u:0<ab d:=by unfold ab;omega
 refine go Tryz.func188 [(0,iv n),(1,iv d)] rfl (aG (lA 2 26 (ic n) a (fun C w2 I a=>lA 3 26 (ic d) a (fun J B H a=>lA 4 28 a1 a (fun D L F a=>lL a ac (ai (aa a [.o (iv d) 1 0 3] (aq 7 a (mZ d ip _ _ a.g) (fun _ _ a=>?_)))))))));have e:(((d).sign:Int) == (0:Int))=false:=hC oM;have c:=ao e;refine lB 8 e (ah (cK (cQ (aa a [.o (iv d) 1 0 3] (aq 11 a (mZ d ip _ _ a.g) (fun _ _ a=>?_))))));have ⟨k,b⟩:=dF (p:=((d).sign:Int)<(0:Int)) oM;refine lB 12 k (ah (cK (cQ (cR 4 [] mixed a aw ?_))));exact eO 0 15 [(2,0,3)] (iv n) a (eO 1 16 [(1,0,3)] (iv d) a (aK 2 17 a (fun _ _ a=>El d _ _ a.g) (fun _ _ a=>aK 3 18 a (fun _ _ a=>iW n (ab d) ip ip ip _ _ a.g a.f.1) (fun _ _ a=>cG a (fun _ _ a=>tP 4 0 0 (qc (mkRat n (ab d))) a (fun _ a=>tV 5 5 qT (tN (kX (a.ret [(0,0,5)] (.tuple #[qv (mkRat n (ab d)),qT]) (by unfold ne;rw[if_neg oM]))))))))))
theorem Fc (n:Int)(d:(wds (ab (0:Int))).length<=1000000000)(w:World)(h:Hp)(g:G w h):CV 188 #[iv n,iv (0:Int)] w h (.tuple #[qv 0,.bool false]):=by
 have a:=sS g;have e:(0:Int).sign=0:=rfl;refine go Tryz.func188 [(0,iv n),(1,iv (0:Int))] rfl (aG (lA 2 26 (ic n) a (fun i w2 u a=>lA 3 26 (ic (0:Int)) a (fun f k j a=>lA 4 28 a1 a (fun l x p a=>lL a ac (ai (aa a [.o (iv (0:Int)) 1 0 3] (aq 7 a (mZ (0:Int) ip _ _ a.g) (fun _ _ a=>?_)))))))));have c:((((0:Int)).sign:Int) == (0:Int))=true:=gE oM;have b:=eq_of_beq c;exact lB 8 c (ak (aa a [.v ca] (lP 0 0 a1 a (fun _ a=>lL a ac (af a [(0,0,5)] (.tuple #[.agg #[qF,uV 0,eS,uV 0,eS],qF]) rfl)))))
theorem rO (x:Int)(A:Z9)(c:Nat)(k:(lim (ab x)).length<=c)(H:(lim (ab x)).length<=2000000000)(y:Int)(D:Z9)(d:Nat)(B:(lim (ab y)).length<=d)(J:(lim (ab y)).length<=2000000000)(w:World)(h:Hp)(g:G w h)(F:S3 A (lim (ab x)) h)(l:S3 D (lim (ab y)) h):CR 65 #[.agg #[.bool (au x),.slice A ((lim (ab x)).length) c],.agg #[.bool (au y),.slice D ((lim (ab y)).length) d]] w h (fun v h1=>RI h1 v (x*y)):=by
 have a:=(((sS g).aS F).aS l);refine go Tryz.func65 [(0,.agg #[.bool (au x),qS A ((lim (ab x)).length) c]),(1,.agg #[.bool (au y),qS D ((lim (ab y)).length) d])] rfl (aG (lA 2 40 ([.bool (au x),qS A ((lim (ab x)).length) c]) a (fun e w2 Q a=>lA 3 40 ([.bool (au y),qS D ((lim (ab y)).length) d]) a (fun j K O a=>lA 4 40 ([qF,sZ]) a (fun L S M a=>ai (cR 11 [] mixed a aw ?_))))));refine eV 0 5 (pB e) (eO 1 6 [(2,0,1)] (.bool (au x)) a (eV 2 7 (pB j) (eO 3 8 [(1,0,1)] (.bool (au y)) a (eV 4 9 (.bool ((au x) != (au y))) (eV 5 10 (qP e 1) (eO 6 11 [(2,1,1)] (qS A ((lim (ab x)).length) c) a (eV 7 12 (qP j 1) (eO 8 13 [(1,1,1)] (qS D ((lim (ab y)).length) d) a (eC 9 14 a (fun _ _ a=>jh (ab x) A c k (ab y) D d B oM oM _ _ a.g a.f.2.1 a.f.1) ?_)))))))));rintro _ _ _ _ _ a ⟨I,C,rfl,z,o⟩;replace a:=a.aS o;refine eC 10 15 a (fun _ _ a=>rI ((au x) != (au y)) ((ab x)*(ab y)) I C z _ _ a.g a.f.1) ?_;rintro _ _ _ _ _ a ⟨i,b,rfl,p,u⟩;replace a:=a.aS u;exact cG a (fun _ _ a=>tP 11 0 0 ([.bool (au (bE ((au x) != (au y)) ((ab x)*(ab y)))),qS i ((lim (ab (bE ((au x) != (au y)) ((ab x)*(ab y))))).length) b]) a (fun _ a=>tN (kX (a.ret [(0,0,2)] (.agg #[.bool (au (bE ((au x) != (au y)) ((ab x)*(ab y)))),qS i ((lim (ab (bE ((au x) != (au y)) ((ab x)*(ab y))))).length) b]) (by rw[<-lw x y];exact ⟨_,_,rfl,p,a.f.1⟩)))))
theorem xR (x:Int)(A:Z9)(c:Nat)(j:(lim (ab x)).length<=c)(p:(lim (ab x)).length<=2000000000)(u:au x=false)(w:World)(h:Hp)(g:G w h)(l:S3 A (lim (ab x)) h):CR 121 #[.agg #[.bool false,.slice A ((lim (ab x)).length) c]] w h (fun v h1=>RI h1 v (-x)):=by
 have a:=((sS g).aS l);refine go Tryz.func121 [(0,.agg #[qF,qS A ((lim (ab x)).length) c])] rfl (aG (lA 1 40 ([qF,qS A ((lim (ab x)).length) c]) a (fun e w2 B a=>lA 2 40 ([qF,sZ]) a (fun C y z a=>aE (lL a [.v (pB e),.o qF 1 0 1,.v qT,.v (qP e 1),.o (qS A ((lim (ab x)).length) c) 1 1 1] (lC 8 a (rI true (ab x) A c j _ _ a.g a.f.1) ?_))))));rintro _ _ _ a ⟨d,i,rfl,b,k⟩;replace a:=a.aS k;exact lP 0 0 ([.bool (au (bE true (ab x))),qS d ((lim (ab (bE true (ab x)))).length) i]) a (fun _ a=>af a [(0,0,2)] (.agg #[.bool (au (bE true (ab x))),qS d ((lim (ab (bE true (ab x)))).length) i]) (by rw[<-r4 x,u];exact ⟨_,_,rfl,b,a.f.1⟩))
theorem wD (x:Int)(A:Z9)(c:Nat)(j:(lim (ab x)).length<=c)(p:(lim (ab x)).length<=2000000000)(u:au x=true)(w:World)(h:Hp)(g:G w h)(l:S3 A (lim (ab x)) h):CR 121 #[.agg #[.bool true,.slice A ((lim (ab x)).length) c]] w h (fun v h1=>RI h1 v (-x)):=by
 have a:=((sS g).aS l);refine go Tryz.func121 [(0,.agg #[qT,qS A ((lim (ab x)).length) c])] rfl (aG (lA 1 40 ([qT,qS A ((lim (ab x)).length) c]) a (fun e w2 B a=>lA 2 40 ([qF,sZ]) a (fun C y z a=>aE (lL a [.v (pB e),.o qT 1 0 1,.v qF,.v (qP e 1),.o (qS A ((lim (ab x)).length) c) 1 1 1] (lC 8 a (rI false (ab x) A c j _ _ a.g a.f.1) ?_))))));rintro _ _ _ a ⟨d,i,rfl,b,k⟩;replace a:=a.aS k;exact lP 0 0 ([.bool (au (bE false (ab x))),qS d ((lim (ab (bE false (ab x)))).length) i]) a (fun _ a=>af a [(0,0,2)] (.agg #[.bool (au (bE false (ab x))),qS d ((lim (ab (bE false (ab x)))).length) i]) (by rw[<-r4 x,u];exact ⟨_,_,rfl,b,a.f.1⟩))
theorem Ba (x:Int)(A:Z9)(c:Nat)(d:(lim (ab x)).length<=c)(a:(lim (ab x)).length<=2000000000)(w:World)(h:Hp)(g:G w h)(b:S3 A (lim (ab x)) h):CR 121 #[.agg #[.bool (au x),.slice A (lim (ab x)).length c]] w h (fun v h1=>RI h1 v (-x)):=by
 rcases hx:au x with _|_
 ·exact xR x A c d a hx w h g b
 ·exact wD x A c d a hx w h g b
theorem ud (x:Int)(A:Z9)(c:Nat)(k:(lim (ab x)).length<=c)(K:(lim (ab x)).length<=2000000000)(y:Int)(D:Z9)(d:Nat)(F:(lim (ab y)).length<=d)(Q:(lim (ab y)).length<=2000000000)(M:au x=false)(H:au y=false)(w:World)(h:Hp)(g:G w h)(J:S3 A (lim (ab x)) h)(l:S3 D (lim (ab y)) h):CR 120 #[.agg #[.bool false,.slice A ((lim (ab x)).length) c],.agg #[.bool false,.slice D ((lim (ab y)).length) d]] w h (fun v h1=>RI h1 v (x+y)):=by
 have a:=(((sS g).aS J).aS l);have p:=bJ M;have O:=bJ H;refine go Tryz.func120 [(0,.agg #[qF,qS A ((lim (ab x)).length) c]),(1,.agg #[qF,qS D ((lim (ab y)).length) d])] rfl (aG (lA 2 40 ([qF,qS A ((lim (ab x)).length) c]) a (fun b w2 X a=>lA 3 40 ([qF,qS D ((lim (ab y)).length) d]) a (fun j S W a=>lA 4 40 ([qF,sZ]) a (fun U Y V a=>ai (aa a [.v (pB b),.o qF 2 0 1,.v (pB j),.o qF 1 0 1,.v qT] (ak (cQ (cR 8 [] mixed a aw ?_)))))))));refine eV 0 10 (pB b) (eO 1 11 [(2,0,1)] qF a (eV 2 12 (qP b 1) (eO 3 13 [(2,1,1)] (qS A ((lim (ab x)).length) c) a (eV 4 14 (qP j 1) (eO 5 15 [(1,1,1)] (qS D ((lim (ab y)).length) d) a (eC 6 16 a (fun _ _ a=>iA (ab x) A c k (ab y) D d F oM oM _ _ a.g a.f.2.1 a.f.1) ?_))))));rintro _ _ _ _ _ a ⟨L,I,rfl,C,u⟩;replace a:=a.aS u;refine eC 7 17 a (fun _ _ a=>rI false ((ab x)+(ab y)) L I C _ _ a.g a.f.1) ?_;rintro _ _ _ _ _ a ⟨i,e,rfl,z,B⟩;replace a:=a.aS B;exact cG a (fun _ _ a=>tP 8 0 0 ([.bool (au (bE false ((ab x)+(ab y)))),qS i ((lim (ab (bE false ((ab x)+(ab y))))).length) e]) a (fun _ a=>tN (kX (a.ret [(0,0,2)] (.agg #[.bool (au (bE false ((ab x)+(ab y)))),qS i ((lim (ab (bE false ((ab x)+(ab y))))).length) e]) (by rw[show x+y=(bE false ((ab x)+(ab y))) by unfold bE ab at *;simp;omega];exact ⟨_,_,rfl,z,a.f.1⟩)))))
theorem uj (x:Int)(A:Z9)(c:Nat)(j:(lim (ab x)).length<=c)(U:(lim (ab x)).length<=2000000000)(y:Int)(D:Z9)(d:Nat)(k:(lim (ab y)).length<=d)(hLy:(lim (ab y)).length<=2000000000)(X:au x=false)(K:au y=true)(w:World)(h:Hp)(g:G w h)(Q:S3 A (lim (ab x)) h)(C:S3 D (lim (ab y)) h):CR 120 #[.agg #[.bool false,.slice A ((lim (ab x)).length) c],.agg #[.bool true,.slice D ((lim (ab y)).length) d]] w h (fun v h1=>RI h1 v (x+y)):=by
 have a:=(((sS g).aS Q).aS C);have F:=bJ X;have hy_:=bT K;refine go Tryz.func120 [(0,.agg #[qF,qS A ((lim (ab x)).length) c]),(1,.agg #[qT,qS D ((lim (ab y)).length) d])] rfl (aG (lA 2 40 ([qF,qS A ((lim (ab x)).length) c]) a (fun b w2 h3 a=>lA 3 40 ([qT,qS D ((lim (ab y)).length) d]) a (fun e w5 h6 a=>lA 4 40 ([qF,sZ]) a (fun b7 w8 h9 a=>ai (aa a [.v (pB b),.o qF 2 0 1,.v (pB e),.o qT 1 0 1,.v qF] (ah (cK (cQ (aa a [.v (qP b 1),.o (qS A ((lim (ab x)).length) c) 2 1 1,.v (qP e 1),.o (qS D ((lim (ab y)).length) d) 1 1 1] (aq 22 a (iT (ab x) A c j (ab y) D d k oM oM _ _ a.g a.f.2.1 a.f.1) (fun _ _ a=>?_))))))))))));have hcm:=gf (ab x) (ab y);cases i:(decide ((0:Int)<=(cX (ab x) (ab y):Int)))
 .
  have B:=oF i;refine lB 23 i (ah (cK (cQ (cR 8 [] mixed a aw ?_))));refine eV 0 32 (pB e) (eO 1 33 [(1,0,1)] qT a (eV 2 34 (qP e 1) (eO 3 35 [(1,1,1)] (qS D ((lim (ab y)).length) d) a (eV 4 36 (qP b 1) (eO 5 37 [(2,1,1)] (qS A ((lim (ab x)).length) c) a (eC 6 38 a (fun _ _ a=>kC (ab y) D d k (ab x) A c j oM oM oM _ _ a.g a.f.1 a.f.2.1) ?_))))));rintro _ _ _ _ _ a ⟨H,S,rfl,V,O⟩;replace a:=a.aS O;refine eC 7 39 a (fun _ _ a=>rI true ((ab y)-(ab x)) H S V _ _ a.g a.f.1) ?_;rintro _ _ _ _ _ a ⟨z,l,rfl,Y,L⟩;replace a:=a.aS L;exact cG a (fun _ _ a=>tP 8 0 0 ([.bool (au (bE true ((ab y)-(ab x)))),qS z ((lim (ab (bE true ((ab y)-(ab x))))).length) l]) a (fun _ a=>tN (kX (a.ret [(0,0,2)] (.agg #[.bool (au (bE true ((ab y)-(ab x)))),qS z ((lim (ab (bE true ((ab y)-(ab x))))).length) l]) (by rw[show x+y=(bE true ((ab y)-(ab x))) by unfold bE ab at *;simp;omega];exact ⟨_,_,rfl,Y,a.f.1⟩)))))
 have B:=oT i;refine lB 23 i (ak (cQ (cR 8 [] mixed a aw ?_)));refine eV 0 24 (pB b) (eO 1 25 [(2,0,1)] qF a (eV 2 26 (qP b 1) (eO 3 27 [(2,1,1)] (qS A ((lim (ab x)).length) c) a (eV 4 28 (qP e 1) (eO 5 29 [(1,1,1)] (qS D ((lim (ab y)).length) d) a (eC 6 30 a (fun _ _ a=>kC (ab x) A c j (ab y) D d k oM oM oM _ _ a.g a.f.2.1 a.f.1) ?_))))));rintro _ _ _ _ _ a ⟨M,I,rfl,J,zm⟩;replace a:=a.aS zm;refine eC 7 31 a (fun _ _ a=>rI false ((ab x)-(ab y)) M I J _ _ a.g a.f.1) ?_;rintro _ _ _ _ _ a ⟨p,u,rfl,W,Z⟩;replace a:=a.aS Z;exact cG a (fun _ _ a=>tP 8 0 0 ([.bool (au (bE false ((ab x)-(ab y)))),qS p ((lim (ab (bE false ((ab x)-(ab y))))).length) u]) a (fun _ a=>tN (kX (a.ret [(0,0,2)] (.agg #[.bool (au (bE false ((ab x)-(ab y)))),qS p ((lim (ab (bE false ((ab x)-(ab y))))).length) u]) (by rw[show x+y=(bE false ((ab x)-(ab y))) by unfold bE ab at *;simp;omega];exact ⟨_,_,rfl,W,a.f.1⟩)))))
theorem tK (x:Int)(A:Z9)(c:Nat)(j:(lim (ab x)).length<=c)(U:(lim (ab x)).length<=2000000000)(y:Int)(D:Z9)(d:Nat)(k:(lim (ab y)).length<=d)(hLy:(lim (ab y)).length<=2000000000)(X:au x=true)(K:au y=false)(w:World)(h:Hp)(g:G w h)(Q:S3 A (lim (ab x)) h)(C:S3 D (lim (ab y)) h):CR 120 #[.agg #[.bool true,.slice A ((lim (ab x)).length) c],.agg #[.bool false,.slice D ((lim (ab y)).length) d]] w h (fun v h1=>RI h1 v (x+y)):=by
 have a:=(((sS g).aS Q).aS C);have F:=bT X;have hy_:=bJ K;refine go Tryz.func120 [(0,.agg #[qT,qS A ((lim (ab x)).length) c]),(1,.agg #[qF,qS D ((lim (ab y)).length) d])] rfl (aG (lA 2 40 ([qT,qS A ((lim (ab x)).length) c]) a (fun b w2 h3 a=>lA 3 40 ([qF,qS D ((lim (ab y)).length) d]) a (fun e w5 h6 a=>lA 4 40 ([qF,sZ]) a (fun b7 w8 h9 a=>ai (aa a [.v (pB b),.o qT 2 0 1,.v (pB e),.o qF 1 0 1,.v qF] (ah (cK (cQ (aa a [.v (qP b 1),.o (qS A ((lim (ab x)).length) c) 2 1 1,.v (qP e 1),.o (qS D ((lim (ab y)).length) d) 1 1 1] (aq 22 a (iT (ab x) A c j (ab y) D d k oM oM _ _ a.g a.f.2.1 a.f.1) (fun _ _ a=>?_))))))))))));have hcm:=gf (ab x) (ab y);cases i:(decide ((0:Int)<=(cX (ab x) (ab y):Int)))
 .
  have B:=oF i;refine lB 23 i (ah (cK (cQ (cR 8 [] mixed a aw ?_))));refine eV 0 32 (pB e) (eO 1 33 [(1,0,1)] qF a (eV 2 34 (qP e 1) (eO 3 35 [(1,1,1)] (qS D ((lim (ab y)).length) d) a (eV 4 36 (qP b 1) (eO 5 37 [(2,1,1)] (qS A ((lim (ab x)).length) c) a (eC 6 38 a (fun _ _ a=>kC (ab y) D d k (ab x) A c j oM oM oM _ _ a.g a.f.1 a.f.2.1) ?_))))));rintro _ _ _ _ _ a ⟨H,S,rfl,V,O⟩;replace a:=a.aS O;refine eC 7 39 a (fun _ _ a=>rI false ((ab y)-(ab x)) H S V _ _ a.g a.f.1) ?_;rintro _ _ _ _ _ a ⟨z,l,rfl,Y,L⟩;replace a:=a.aS L;exact cG a (fun _ _ a=>tP 8 0 0 ([.bool (au (bE false ((ab y)-(ab x)))),qS z ((lim (ab (bE false ((ab y)-(ab x))))).length) l]) a (fun _ a=>tN (kX (a.ret [(0,0,2)] (.agg #[.bool (au (bE false ((ab y)-(ab x)))),qS z ((lim (ab (bE false ((ab y)-(ab x))))).length) l]) (by rw[show x+y=(bE false ((ab y)-(ab x))) by unfold bE ab at *;simp;omega];exact ⟨_,_,rfl,Y,a.f.1⟩)))))
 have B:=oT i;refine lB 23 i (ak (cQ (cR 8 [] mixed a aw ?_)));refine eV 0 24 (pB b) (eO 1 25 [(2,0,1)] qT a (eV 2 26 (qP b 1) (eO 3 27 [(2,1,1)] (qS A ((lim (ab x)).length) c) a (eV 4 28 (qP e 1) (eO 5 29 [(1,1,1)] (qS D ((lim (ab y)).length) d) a (eC 6 30 a (fun _ _ a=>kC (ab x) A c j (ab y) D d k oM oM oM _ _ a.g a.f.2.1 a.f.1) ?_))))));rintro _ _ _ _ _ a ⟨M,I,rfl,J,zm⟩;replace a:=a.aS zm;refine eC 7 31 a (fun _ _ a=>rI true ((ab x)-(ab y)) M I J _ _ a.g a.f.1) ?_;rintro _ _ _ _ _ a ⟨p,u,rfl,W,Z⟩;replace a:=a.aS Z;exact cG a (fun _ _ a=>tP 8 0 0 ([.bool (au (bE true ((ab x)-(ab y)))),qS p ((lim (ab (bE true ((ab x)-(ab y))))).length) u]) a (fun _ a=>tN (kX (a.ret [(0,0,2)] (.agg #[.bool (au (bE true ((ab x)-(ab y)))),qS p ((lim (ab (bE true ((ab x)-(ab y))))).length) u]) (by rw[show x+y=(bE true ((ab x)-(ab y))) by unfold bE ab at *;simp;omega];exact ⟨_,_,rfl,W,a.f.1⟩)))))
theorem th (x:Int)(A:Z9)(c:Nat)(k:(lim (ab x)).length<=c)(K:(lim (ab x)).length<=2000000000)(y:Int)(D:Z9)(d:Nat)(F:(lim (ab y)).length<=d)(Q:(lim (ab y)).length<=2000000000)(M:au x=true)(H:au y=true)(w:World)(h:Hp)(g:G w h)(J:S3 A (lim (ab x)) h)(l:S3 D (lim (ab y)) h):CR 120 #[.agg #[.bool true,.slice A ((lim (ab x)).length) c],.agg #[.bool true,.slice D ((lim (ab y)).length) d]] w h (fun v h1=>RI h1 v (x+y)):=by
 have a:=(((sS g).aS J).aS l);have p:=bT M;have O:=bT H;refine go Tryz.func120 [(0,.agg #[qT,qS A ((lim (ab x)).length) c]),(1,.agg #[qT,qS D ((lim (ab y)).length) d])] rfl (aG (lA 2 40 ([qT,qS A ((lim (ab x)).length) c]) a (fun b w2 X a=>lA 3 40 ([qT,qS D ((lim (ab y)).length) d]) a (fun j S W a=>lA 4 40 ([qF,sZ]) a (fun U Y V a=>ai (aa a [.v (pB b),.o qT 2 0 1,.v (pB j),.o qT 1 0 1,.v qT] (ak (cQ (cR 8 [] mixed a aw ?_)))))))));refine eV 0 10 (pB b) (eO 1 11 [(2,0,1)] qT a (eV 2 12 (qP b 1) (eO 3 13 [(2,1,1)] (qS A ((lim (ab x)).length) c) a (eV 4 14 (qP j 1) (eO 5 15 [(1,1,1)] (qS D ((lim (ab y)).length) d) a (eC 6 16 a (fun _ _ a=>iA (ab x) A c k (ab y) D d F oM oM _ _ a.g a.f.2.1 a.f.1) ?_))))));rintro _ _ _ _ _ a ⟨L,I,rfl,C,u⟩;replace a:=a.aS u;refine eC 7 17 a (fun _ _ a=>rI true ((ab x)+(ab y)) L I C _ _ a.g a.f.1) ?_;rintro _ _ _ _ _ a ⟨i,e,rfl,z,B⟩;replace a:=a.aS B;exact cG a (fun _ _ a=>tP 8 0 0 ([.bool (au (bE true ((ab x)+(ab y)))),qS i ((lim (ab (bE true ((ab x)+(ab y))))).length) e]) a (fun _ a=>tN (kX (a.ret [(0,0,2)] (.agg #[.bool (au (bE true ((ab x)+(ab y)))),qS i ((lim (ab (bE true ((ab x)+(ab y))))).length) e]) (by rw[show x+y=(bE true ((ab x)+(ab y))) by unfold bE ab at *;simp;omega];exact ⟨_,_,rfl,z,a.f.1⟩)))))
theorem BB (x:Int)(A:Z9)(c:Nat)(f:(lim (ab x)).length<=c)(a:(lim (ab x)).length<=2000000000)(y:Int)(D:Z9)(d:Nat)(i:(lim (ab y)).length<=d)(b:(lim (ab y)).length<=2000000000)(w:World)(h:Hp)(g:G w h)(e:S3 A (lim (ab x)) h)(j:S3 D (lim (ab y)) h):CR 120 #[.agg #[.bool (au x),.slice A (lim (ab x)).length c],.agg #[.bool (au y),.slice D (lim (ab y)).length d]] w h (fun v h1=>RI h1 v (x+y)):=by
 rcases hx:au x with _|_<;>rcases hy:au y with _|_
 ·exact ud x A c f a y D d i b hx hy w h g e j
 ·exact uj x A c f a y D d i b hx hy w h g e j
 ·exact tK x A c f a y D d i b hx hy w h g e j
 ·exact th x A c f a y D d i b hx hy w h g e j
theorem tT (x:Int)(A:Z9)(c:Nat)(l:(lim (ab x)).length<=c)(i:(lim (ab x)).length<=2000000000)(hz:x=0)(w:World)(h:Hp)(g:G w h)(e:S3 A (lim (ab x)) h):CV 92 #[.agg #[.bool (au x),.slice A ((lim (ab x)).length) c]] w h (iV x.sign):=by
 have a:=((sS g).aS e);have k:=@bI (ab x);have j:ab x=x.natAbs:=rfl;refine go Tryz.func92 [(0,.agg #[.bool (au x),qS A ((lim (ab x)).length) c])] rfl (aG (lA 1 40 ([.bool (au x),qS A ((lim (ab x)).length) c]) a (fun f w2 p a=>lL a ac (ai (kZ (aa a [.v (qP f 1),.o (qS A ((lim (ab x)).length) c) 0 1 1,.v (nV ((lim (ab x)).length))] ?_))))));have b:((((lim (ab x)).length:Nat):Int) == (0:Int))=true:=gE oM;have d:=eq_of_beq b;exact lB 7 b (lL a ac (ak (aa a ac (af a [] (iV 0) (by subst hz;rfl)))))
theorem t6 (x:Int)(A:Z9)(c:Nat)(l:(lim (ab x)).length<=c)(i:(lim (ab x)).length<=2000000000)(hz:x<0)(w:World)(h:Hp)(g:G w h)(f:S3 A (lim (ab x)) h):CV 92 #[.agg #[.bool true,.slice A ((lim (ab x)).length) c]] w h (iV x.sign):=by
 have a:=((sS g).aS f);have k:=@bI (ab x);have j:ab x=x.natAbs:=rfl;refine go Tryz.func92 [(0,.agg #[qT,qS A ((lim (ab x)).length) c])] rfl (aG (lA 1 40 ([qT,qS A ((lim (ab x)).length) c]) a (fun d w2 p a=>lL a ac (ai (kZ (aa a [.v (qP d 1),.o (qS A ((lim (ab x)).length) c) 0 1 1,.v (nV ((lim (ab x)).length))] ?_))))));have b:((((lim (ab x)).length:Nat):Int) == (0:Int))=false:=hC oM;have e:=ao b;exact lB 7 b (lL a ac (ah (aa a [.v (pB d),.o qT 0 0 1,.c] (ak (aa a ac (af a [] (iV (-1)) (by rw[J4 hz])))))))
theorem tj (x:Int)(A:Z9)(c:Nat)(l:(lim (ab x)).length<=c)(i:(lim (ab x)).length<=2000000000)(hz:0<x)(w:World)(h:Hp)(g:G w h)(f:S3 A (lim (ab x)) h):CV 92 #[.agg #[.bool false,.slice A ((lim (ab x)).length) c]] w h (iV x.sign):=by
 have a:=((sS g).aS f);have k:=@bI (ab x);have j:ab x=x.natAbs:=rfl;refine go Tryz.func92 [(0,.agg #[qF,qS A ((lim (ab x)).length) c])] rfl (aG (lA 1 40 ([qF,qS A ((lim (ab x)).length) c]) a (fun d w2 p a=>lL a ac (ai (kZ (aa a [.v (qP d 1),.o (qS A ((lim (ab x)).length) c) 0 1 1,.v (nV ((lim (ab x)).length))] ?_))))));have b:((((lim (ab x)).length:Nat):Int) == (0:Int))=false:=hC oM;have e:=ao b;exact lB 7 b (lL a ac (ah (aa a [.v (pB d),.o qF 0 0 1,.c] (ah (cK (aa a ac (af a [] (iV 1) (by rw[J5 hz]))))))))
theorem vS (x:Int)(A:Z9)(c:Nat)(d:(lim (ab x)).length<=c)(a:(lim (ab x)).length<=2000000000)(w:World)(h:Hp)(g:G w h)(b:S3 A (lim (ab x)) h):CV 92 #[.agg #[.bool (au x),.slice A (lim (ab x)).length c]] w h (iV x.sign):=by
 rcases J3 x 0 with hz|hz|hz
 ·have:=t6 x A c d a hz w h g b
  rwa [<-show au x=true by simp[au,hz]] at this
 ·exact tT x A c d a hz w h g b
 ·have:=tj x A c d a hz w h g b
  rwa [<-show au x=false by simp[au];omega] at this
theorem BF (x:Int)(A:Z9)(c:Nat)(i:(lim (ab x)).length<=c)(F:(lim (ab x)).length<=2000000000)(y:Int)(D:Z9)(d:Nat)(u:(lim (ab y)).length<=d)(I:(lim (ab y)).length<=2000000000)(w:World)(h:Hp)(g:G w h)(C:S3 A (lim (ab x)) h)(j:S3 D (lim (ab y)) h):CR 93 #[.agg #[.bool (au x),.slice A ((lim (ab x)).length) c],.agg #[.bool (au y),.slice D ((lim (ab y)).length) d]] w h (fun v h1=>RI h1 v (x-y)):=by
 have a:=(((sS g).aS C).aS j);have z:(lim (ab (-y))).length=(lim (ab y)).length:=by unfold ab;rw[Int.natAbs_neg]
 refine go Tryz.func93 [(0,.agg #[.bool (au x),qS A ((lim (ab x)).length) c]),(1,.agg #[.bool (au y),qS D ((lim (ab y)).length) d])] rfl (aG (lA 2 40 ([.bool (au x),qS A ((lim (ab x)).length) c]) a (fun K w2 Q a=>lA 3 40 ([.bool (au y),qS D ((lim (ab y)).length) d]) a (fun S J O a=>lA 4 40 ([qF,sZ]) a (fun L U M a=>ai (cR 4 [] mixed a aw ?_))))));refine eO 0 5 [(2,0,2)] (.agg #[.bool (au x),qS A ((lim (ab x)).length) c]) a (eO 1 6 [(1,0,2)] (.agg #[.bool (au y),qS D ((lim (ab y)).length) d]) a (eC 2 7 a (fun _ _ a=>Ba y D d u oM _ _ a.g a.f.1) ?_));rintro _ _ _ _ _ a ⟨H,B,rfl,p,k⟩;replace a:=a.aS k;refine eC 3 8 a (fun _ _ a=>BB x A c i oM (-y) H B p oM _ _ a.g a.f.r.1 a.f.1) ?_;rintro _ _ _ _ _ a ⟨e,b,rfl,l,o⟩;replace a:=a.aS o;exact cG a (fun _ _ a=>tP 4 0 0 ([.bool (au (x+(-y))),qS e ((lim (ab (x+(-y)))).length) b]) a (fun _ a=>tN (kX (a.ret [(0,0,2)] (.agg #[.bool (au (x+(-y))),qS e ((lim (ab (x+(-y)))).length) b]) (by rw[Int.sub_eq_add_neg];exact ⟨_,_,rfl,l,a.f.1⟩)))))
theorem tF (x y:Int):(x-y).sign=dS x y:=by
 unfold dS
 rcases J3 x y with h|h|h
 ·rw[if_pos h,J4 oM]
 ·subst h;simp
 ·rw[if_neg oM,if_pos h,J5 oM]
theorem Bz (x:Int)(A:Z9)(c:Nat)(j:(lim (ab x)).length<=c)(e:(lim (ab x)).length<=1999999999)(y:Int)(D:Z9)(d:Nat)(u:(lim (ab y)).length<=d)(i:(lim (ab y)).length<=1999999999)(w:World)(h:Hp)(g:G w h)(z:S3 A (lim (ab x)) h)(k:S3 D (lim (ab y)) h):CV 64 #[.agg #[.bool (au x),.slice A ((lim (ab x)).length) c],.agg #[.bool (au y),.slice D ((lim (ab y)).length) d]] w h (iV (dS x y)):=by
 have a:=(((sS g).aS z).aS k);have C:(lim (ab (x-y))).length<=2000000000:=j5 (show ab (x-y)<=ab x+ab y by unfold ab;omega) (kg e i);refine go Tryz.func64 [(0,.agg #[.bool (au x),qS A ((lim (ab x)).length) c]),(1,.agg #[.bool (au y),qS D ((lim (ab y)).length) d])] rfl (aG (lA 2 40 ([.bool (au x),qS A ((lim (ab x)).length) c]) a (fun H w2 J a=>lA 3 40 ([.bool (au y),qS D ((lim (ab y)).length) d]) a (fun K F I a=>lL a ac (aE (lL a [.o (.agg #[.bool (au x),qS A ((lim (ab x)).length) c]) 1 0 2,.o (.agg #[.bool (au y),qS D ((lim (ab y)).length) d]) 0 0 2] (lC 7 a (BF x A c j oM y D d u oM _ _ a.g a.f.2.1 a.f.1) ?_)))))));rintro _ _ _ a ⟨l,B,rfl,b,p⟩;replace a:=a.aS p;exact aq 8 a (vS (x-y) l B b oM _ _ a.g a.f.1) (fun _ _ a=>lL a ac (af a [] (iV (((x-y)).sign)) (by rw[tF])))
theorem uJ (a:Nat)(A:Z9)(c:Nat)(j:(lim a).length<=c)(b:Nat)(D:Z9)(d:Nat)(l:(lim b).length<=d)(q:Nat)(i:q=JI a b)(e:(lim a).length<=3000000000)(f:(lim b).length<=3000000000)(w:World)(h:Hp)(g:G w h)(o:S3 A (lim a) h)(k:S3 D (lim b) h):CR 196 #[.slice A (lim a).length c,.slice D (lim b).length d] w h (fun v h1=>RN h1 v q):=by
 subst i;exact Ct a A c j b D d l e f w h g o k
theorem tA (n d:Int)(h:d≠0):(ne n d).num=bE (au n != au d) (ab n/JI (ab n) (ab d))/\(ne n d).den=ab d/JI (ab n) (ab d)/\0<JI (ab n) (ab d):=by
  have c:0<ab d:=by unfold ab;omega
  have hz:ab (if d<0 then -n else n)=ab n:=by unfold ab;split<;>omega
  obtain ⟨h1,i,k,j⟩:=ig (if d<0 then -n else n) (ab d) c;rw[hz] at h1 i k j
  refine ⟨?_,i,j⟩;have f:=pT _ _ k;rw[hz] at f
  show (mkRat _ _).num=_
  rw[h1,<-f]
  by_cases hn:n=0
  . have l:ab n/JI (ab n) (ab d)=0:=by rw[hn];exact Nat.zero_div _
    rw[l]
    unfold bE
    simp
  . have e:decide ((if d<0 then -n else n).sign<0)=(au n != au d):=by
      unfold au
      rcases J3 n 0 with a|a|a
      . rcases J3 d 0 with b|b|b
        . rw[if_pos b,J5 oM];simp[a,b]
        . exact absurd b h
        . rw[if_neg oM,J4 a];simp[a,show ¬d<0 by omega]
      . exact absurd a hn
      . rcases J3 d 0 with b|b|b
        . rw[if_pos b,J4 oM];simp[show ¬n<0 by omega,b]
        . exact absurd b h
        . rw[if_neg oM,J5 a];simp[show ¬n<0 by omega,show ¬d<0 by omega]
    rw[e]
theorem rH (x:Int)(A:Z9)(c:Nat)(I:(lim (ab x)).length<=c)(Z:(lim (ab x)).length<=2000000000)(y:Int)(D:Z9)(d:Nat)(L:(lim (ab y)).length<=d)(H:(lim (ab y)).length<=2000000000)(C:y≠0)(w:World)(h:Hp)(g:G w h)(X:S3 A (lim (ab x)) h)(S:S3 D (lim (ab y)) h):CR 168 #[.agg #[.bool (au x),.slice A ((lim (ab x)).length) c],.agg #[.bool (au y),.slice D ((lim (ab y)).length) d]] w h (fun v h1=>RQ h1 v (ne x y)):=by
 have a:=(((sS g).aS X).aS S);obtain ⟨j,k,i⟩:=tA x y C;obtain ⟨q,hq⟩:∃ q,q=JI (ab x) (ab y):=⟨_,rfl⟩;rw[<-hq] at j k i
 have hql:(lim q).length<=2000000000:=j5 (by rw[hq];exact Ka _ (by unfold ab;omega)) H;refine go Tryz.func168 [(0,.agg #[.bool (au x),qS A ((lim (ab x)).length) c]),(1,.agg #[.bool (au y),qS D ((lim (ab y)).length) d])] rfl (aG (lA 2 40 ([.bool (au x),qS A ((lim (ab x)).length) c]) a (fun z w2 h3 a=>lA 3 40 ([.bool (au y),qS D ((lim (ab y)).length) d]) a (fun F w5 h6 a=>lA 4 42 ([qF,sZ,sZ]) a (fun b7 w8 h9 a=>aE (lL a [.v (qP z 1),.o (qS A ((lim (ab x)).length) c) 2 1 1,.v (qP F 1),.o (qS D ((lim (ab y)).length) d) 1 1 1] (lC 14 a (uJ (ab x) A c I (ab y) D d L q hq oM oM _ _ a.g a.f.2.1 a.f.1) ?_)))))));rintro _ _ _ a ⟨J,O,rfl,K,W⟩;replace a:=a.aS W;refine lL a ac (aE (lL a [.v (qP z 1),.o (qS A ((lim (ab x)).length) c) 2 1 1,.c] (lC 19 a (ns (ab x) A c I q J O K oM oM i _ _ a.g a.f.r.1 a.f.1) ?_)));rintro _ _ _ a ⟨_,e,rfl,⟨M,Q,rfl,V,zm⟩,-⟩;replace a:=a.aS zm;refine lL a [.c,.v (qS M ((lim ((ab x)/q)).length) Q),.v e,.c,.c] (aE (lL a [.v (qP F 1),.o (qS D ((lim (ab y)).length) d) 1 1 1,.c] (lC 26 a (ns (ab y) D d L q J O K oM oM i _ _ a.g a.f.r.1 a.f.2.1) ?_)));rintro _ _ _ a ⟨_,b,rfl,⟨p,l,rfl,zn,zo⟩,-⟩;replace a:=a.aS zo;refine lL a [.c,.v (qS p ((lim ((ab y)/q)).length) l),.v b,.c,.c] (aE (lL a [.v (pB z),.o (.bool (au x)) 2 0 1,.v (pB F),.o (.bool (au y)) 1 0 1,.v (.bool ((au x) != (au y))),.c] (lC 35 a (rI ((au x) != (au y)) ((ab x)/q) M Q V _ _ a.g a.f.2.1) ?_)));rintro _ _ _ a ⟨u,B,rfl,U,Y⟩;replace a:=a.aS Y;exact lL a [.c,.v (.agg #[.bool (au (bE ((au x) != (au y)) ((ab x)/q))),qS u ((lim (ab (bE ((au x) != (au y)) ((ab x)/q)))).length) B,qS p ((lim ((ab y)/q)).length) l])] (lP 0 0 ([.bool (au (bE ((au x) != (au y)) ((ab x)/q))),qS u ((lim (ab (bE ((au x) != (au y)) ((ab x)/q)))).length) B,qS p ((lim ((ab y)/q)).length) l]) a (fun _ a=>af a [(0,0,3)] (.agg #[.bool (au (bE ((au x) != (au y)) ((ab x)/q))),qS u ((lim (ab (bE ((au x) != (au y)) ((ab x)/q)))).length) B,qS p ((lim ((ab y)/q)).length) l]) (by unfold RQ;rw[j,k];exact ⟨_,_,_,_,rfl,U,zn,a.f.1,a.f.2.1⟩)))
theorem oA (x:Int)(d:Nat):(lim (ab (x*((d:Nat):Int)))).length<=(lim (ab x)).length+(lim d).length:=by
 have:ab (x*((d:Nat):Int))=ab x*d:=J0 x (d:Int);rw[this];exact oB
theorem Gh (a:Rat)(e:Z9)(c1:Nat)(d:Z9)(c:Nat)(B:(lim (ab a.num)).length<=c1)(i:(lim a.den).length<=c)(C:(lim (ab a.num)).length<=300000000)(y:(lim a.den).length<=300000000)(w:World)(h:Hp)(g:G w h)(k:S3 e (lim (ab a.num)) h)(l:S3 d (lim a.den) h):CR 66 #[.agg #[.bool (au a.num),.slice e ((lim (ab a.num)).length) c1,.slice d ((lim (a.den)).length) c]] w h (fun v h1=>RI h1 v (a.den:Int)):=by
 have b:=(((sS g).aS k).aS l);refine go Tryz.func66 [(0,.agg #[.bool (au a.num),qS e ((lim (ab a.num)).length) c1,qS d ((lim (a.den)).length) c])] rfl (aG (lA 1 42 ([.bool (au a.num),qS e ((lim (ab a.num)).length) c1,qS d ((lim (a.den)).length) c]) b (fun x w2 H b=>lA 2 40 ([qF,sZ]) b (fun I D F b=>aE (lL b [.v (qP x 2),.o (qS d ((lim (a.den)).length) c) 1 2 1] (lC 5 b (rI false a.den d c i _ _ b.g b.f.1) ?_))))));rintro _ _ _ b ⟨p,u,rfl,j,z⟩;replace b:=b.aS z;exact lP 0 0 ([.bool (au (bE false a.den)),qS p ((lim (ab (bE false a.den))).length) u]) b (fun _ b=>af b [(0,0,2)] (.agg #[.bool (au (bE false a.den)),qS p ((lim (ab (bE false a.den))).length) u]) (⟨_,_,rfl,j,b.f.1⟩))
theorem HW (a:Rat)(d:Z9)(c1:Nat)(k:Z9)(j:Nat)(p:(lim (ab a.num)).length<=c1)(u:(lim a.den).length<=j)(hn1:(lim (ab a.num)).length<=300000000)(S:(lim a.den).length<=300000000)(b:Rat)(e:Z9)(c2:Nat)(i:Z9)(l:Nat)(o:(lim (ab b.num)).length<=c2)(C:(lim b.den).length<=l)(L:(lim (ab b.num)).length<=300000000)(U:(lim b.den).length<=300000000)(w:World)(h:Hp)(g:G w h)(y:S3 d (lim (ab a.num)) h)(B:S3 k (lim a.den) h)(D:S3 e (lim (ab b.num)) h)(z:S3 i (lim b.den) h):CV 37 #[.agg #[.bool (au a.num),.slice d ((lim (ab a.num)).length) c1,.slice k ((lim (a.den)).length) j],.agg #[.bool (au b.num),.slice e ((lim (ab b.num)).length) c2,.slice i ((lim (b.den)).length) l]] w h (iV (fs a b)):=by
 have c:=(((((sS g).aS y).aS B).aS D).aS z);have M:=oA a.num b.den;have I:=oA b.num a.den;refine go Tryz.func37 [(0,.agg #[.bool (au a.num),qS d ((lim (ab a.num)).length) c1,qS k ((lim (a.den)).length) j]),(1,.agg #[.bool (au b.num),qS e ((lim (ab b.num)).length) c2,qS i ((lim (b.den)).length) l])] rfl (aG (lA 2 42 ([.bool (au a.num),qS d ((lim (ab a.num)).length) c1,qS k ((lim (a.den)).length) j]) c (fun K w2 h3 c=>lA 3 42 ([.bool (au b.num),qS e ((lim (ab b.num)).length) c2,qS i ((lim (b.den)).length) l]) c (fun b4 w5 h6 c=>lL c ac (ai (cR 11 [] mixed c aw ?_))))));refine eV 0 5 (pB K) (eO 1 6 [(1,0,2)] (.agg #[.bool (au a.num),qS d ((lim (ab a.num)).length) c1]) c (eO 2 7 [(0,0,3)] (.agg #[.bool (au b.num),qS e ((lim (ab b.num)).length) c2,qS i ((lim (b.den)).length) l]) c (eV 5 10 (pB b4) (eO 6 11 [(0,0,2)] (.agg #[.bool (au b.num),qS e ((lim (ab b.num)).length) c2]) c (eO 7 12 [(1,0,3)] (.agg #[.bool (au a.num),qS d ((lim (ab a.num)).length) c1,qS k ((lim (a.den)).length) j]) c (eC 3 8 c (fun _ _ c=>Gh b e c2 i l o C oM oM _ _ c.g c.f.2.1 c.f.1) ?_))))));rintro _ _ _ _ _ c ⟨H,c8,rfl,x,W⟩;replace c:=c.aS W;refine eC 4 9 c (fun _ _ c=>rO a.num d c1 p oM (b.den:Int) H c8 x (show (lim (b.den)).length<=2000000000 by omega) _ _ c.g c.f.q.1 c.f.1) ?_;rintro _ _ _ _ _ c ⟨Z,zj,rfl,F,X⟩;replace c:=c.aS X;refine eC 8 13 c (fun _ _ c=>Gh a d c1 k j p u oM oM _ _ c.g c.f.q.2.1 c.f.q.1) ?_;rintro _ _ _ _ _ c ⟨Y,O,rfl,J,Q⟩;replace c:=c.aS Q;refine eC 9 14 c (fun _ _ c=>rO b.num e c2 o oM (a.den:Int) Y O J (show (lim (a.den)).length<=2000000000 by omega) _ _ c.g c.f.q.1 c.f.1) ?_;rintro _ _ _ _ _ c ⟨zm,zn,rfl,V,zg⟩;replace c:=c.aS zg;exact aK 10 15 c (fun _ _ c=>Bz (a.num*(b.den:Int)) Z zj F oM (b.num*(a.den:Int)) zm zn V oM _ _ c.g c.f.r.1 c.f.1) (fun _ _ c=>cG c (fun _ _ c=>tV 11 4 (iV (dS (a.num*(b.den:Int)) (b.num*(a.den:Int)))) (tN (kX (c.ret [] (iV (dS (a.num*(b.den:Int)) (b.num*(a.den:Int)))) rfl)))))
theorem jn (z:Int)(n:Nat):ne z (bE false n)=mkRat z n:=by
 have h1:bE false n=(n:Int):=rfl;rw[h1];unfold ne;rw[if_neg oM];rfl
theorem IW (z:Int)(h0 : -9223372036854775808<=z)(h1:z<9223372036854775808)(w:World)(h:Hp)(g:G w h):CR 167 #[iV z] w h (fun v h1=>RQ h1 v (z:Rat)):=by
 have a:=sS g;refine go Tryz.func167 [(0,iV z)] rfl (aG (lA 2 42 ([qF,sZ,sZ]) a (fun o w2 u a=>aE (lL a ac (lC 4 a (Ex z oM oM _ _ a.g) ?_)))));rintro _ x p a ⟨d,i,rfl,j,e⟩;replace a:=a.aS e;refine lC 5 a (ew 1 oM _ _ a.g) ?_;rintro _ _ _ a ⟨c,b,rfl,l,k⟩;replace a:=a.aS k;exact lL a [.v (.agg #[.bool (au z),qS d ((lim (ab z)).length) i,qS c ((lim 1).length) b])] (lP 0 0 ([.bool (au z),qS d ((lim (ab z)).length) i,qS c ((lim 1).length) b]) a (fun _ a=>af a [(0,0,3)] (.agg #[.bool (au z),qS d ((lim (ab z)).length) i,qS c ((lim 1).length) b]) (by unfold RQ;rw[J7,J9];exact ⟨_,_,_,_,rfl,j,l,a.f.2.1,a.f.1⟩)))
theorem xZ {P:Program}{Γ:ck}{o:Oper}{t u:TypeId}{x y:Operand}{ky:IntKind}{a n:Nat}(c:o.op=.binOp .shl t x y u)(b:ev Γ x=.int .u32 (a:Int))(e:ev Γ y=.int ky (n:Int))(d:n<=32)(hf:a*2^n<4294967296)(w:World) :
  (execOp (ev Γ) o).run P w=.ok (.value (.int .u32 ((a*2^n:Nat):Int))) w:=by
 have:=Hd (P:=P) c b e d w;rw[show ((a:Int)*2^n)=((a*2^n:Nat):Int) by simp,CQ hf] at this
 exact this
theorem tw {n m:Nat}(h:n<256^m):∀ j,j<(m+3)/4->(um ((m+3)/4) 0).getD j 0=eM n (m-0) j:=fun j a=>by
 rw[Nat.sub_zero,wS h];simp[a]
theorem tM {l:List Nat}{n m i x:Nat}(hi:i<m)(c:l.length=(m+3)/4)(hv:∀ j,j<(m+3)/4->l.getD j 0=eM n (m-i) j)(b:x=eM n (m-1-i) ((m-1-i)/4)) :
  ∀ j,j<(m+3)/4->(l.set ((m-1-i)/4) x).getD j 0=eM n (m-(i+1)) j:=by
 intro j a;rw[show m-(i+1)=m-1-i by omega]
 by_cases e:j=(m-1-i)/4
 ·subst e
  have:(m-1-i)/4<l.length:=by omega
  simp[this,b]
 ·rw[mO,if_neg e,show m-1-i+1=m-i by omega,<-hv j a]
  simp only[B1]
  rw[List.getElem?_set_ne (Ne.symm e)]
theorem s8 {n k:Nat}:eM n (k+1) (k/4) ||| (n/256^k%256)*2^(8*(k%4))=eM n k (k/4):=by rw[mO n k (k/4),if_pos rfl]
theorem mK {b k:Nat}(a:b<256):b*2^(8*(k%4))<4294967296:=by
 have:k%4=0\/k%4=1\/k%4=2\/k%4=3:=by omega
 rcases this with e|e|e|e<;>rw[e]<;>omega
theorem xg {l:List Nat}{n m:Nat}(b:n<256^m)(d:l.length=(m+3)/4)(hv:∀ j,j<(m+3)/4->l.getD j 0=eM n (m-m) j):am 4294967296 l=n/\Ld l:=by
 constructor
 ·rw[<-jP]
  refine ia l n (fun j a=>by rw[hv j oM,Nat.sub_self,uo]) ?_;refine Nat.lt_of_lt_of_le b ?_;rw[d,show (256:Nat)=2^8 by rfl,show (4294967296:Nat)=2^32 by rfl,<-Nat.pow_mul,<-Nat.pow_mul];exact A4 oM oM
 ·intro x c
  obtain ⟨j,a,rfl⟩:=List.mem_iff_getElem.1 c;have:=hv j oM;have e:l[j]=l.getD j 0:=by simp[a]
  rw[e,this];exact oa _ _ _
theorem vj (n m:Nat)(A:Z9)(cap:Nat)(hc:m<=cap)(hm:m<=1099511627776)(V:n<256^m)(w:World)(h:Hp)(g:G w h)(hA:SlO 1 pZ 0 h A (fA n m)):CR 97 #[.slice A m cap] w h (fun v h1=>RN h1 v n):=by
 have e:=((sS g).aS hA);have W:=jb n m;refine go Tryz.func97 [(0,qS A m cap)] rfl (aa e ac (aE (lL e [.c,.v (nV m)] (bg 8 ((m:Nat)+3) (m+3) ?_))));refine lV 9 (nV ((m+3)/4)) ?_ (hr:=aN (db (t:=3) (u:=3) (x:=.tmp 8) (y:=.const (iV 4)) (k:=.i64) (a:=((m+3:Nat):Int)) (b:=(4:Int)) kR kR kR oM _) (de (m+3) 4 oM));refine lK 10 158 ((m+3)/4) 1 4 (uW 0) aW 0 e (fun B w2 h3 e=>?_);have J:(um ((m+3)/4) 0).length=((m+3)/4):=by simp
 refine lL e ac (ai (aa e ac (bx ?_)));refine bG _ (CG.loop (fun Q Γ w_=>∃ (i:Nat)(l:List Nat)(O:Hp),Q=m-i/\Γ=[(0,qS A m cap),(2,sZ),(3,qS (sB B) ((m+3)/4) ((m+3)/4)),(4,nV i)]/\SS w h w_ O [⟨B,158,(l).flatMap aW⟩] [] [fun O=>SlO 1 pZ 0 O A (fA n m)]/\i<=m/\l.length=(m+3)/4/\(∀ j,j<(m+3)/4->l.getD j 0=eM n (m-i) j)) _ ⟨0,um ((m+3)/4) 0,h3,rfl,rfl,e.to _ _,JF _,J,(tw V)⟩ ?_);rintro _ _ w5 ⟨i,l,h6,Z,rfl,e,hi,z,hv⟩;refine cQ (aa e [.c,.c,.v (nV m)] ?_);cases C:(decide ((i:Int)<(m:Int)))
 .
  have F:=oF C;refine lB 14 C (ah (CG.exit ?_))
  show CG _ _ _ _ _ _ _ _
  refine aa e ac ?_;have M:i=m:=by omega
  rw[M] at hv
  obtain ⟨L,K⟩:=xg V z hv;obtain ⟨h9,e,D,U,S⟩:=e.pub 0;replace e:=(e.to [] []).aS (SlO.of_flat (sz:=1) (f:=aW) (d:=0) (b:=B) (o:=0) (l:=l) (fun _=>rfl) D);exact aq 43 e (iI (sB B) ((m+3)/4) l ((m+3)/4) z oM oM _ _ e.g e.f.1) (fun _ _ e=>lL e ac (af e [] (qS (sB B) (tl l ((m+3)/4)) ((m+3)/4)) (RN.trim K L z oM e.f.1)))
 have F:=oT C;refine lB 14 C (ak (cK (cQ (kZ (aa e [.c,.v (nV m)] (bg 19 ((m:Nat)-1) (m-1) ?_))))));refine lL e ac (bg 21 ((m-1:Nat)-(i:Nat)) ((m-1)-i) ?_);refine lL e ac (lN (cR 19 [] mixed e aw ?_));refine eV 0 22 (qS (sB B) ((m+3)/4) ((m+3)/4)) (eV 1 23 (nV ((m-1)-i)) (eV 2 24 (nV (((m-1)-i)/4)) ?_ (hv:=fun _=>aN (db (t:=3) (u:=3) (x:=.tmp 23) (y:=.const (iV 4)) (k:=.i64) (a:=(((m-1)-i:Nat):Int)) (b:=(4:Int)) kR kR kR oM _) (de ((m-1)-i) 4 oM))));refine eV 3 25 (qS (sB B) ((m+3)/4) ((m+3)/4)) (eV 4 26 (nV ((m-1)-i)) (eV 5 27 (nV (((m-1)-i)/4)) ?_ (hv:=fun _=>aN (db (t:=3) (u:=3) (x:=.tmp 26) (y:=.const (iV 4)) (k:=.i64) (a:=(((m-1)-i:Nat):Int)) (b:=(4:Int)) kR kR kR oM _) (de ((m-1)-i) 4 oM))));refine eX 6 28 (sB B) ((m+3)/4) ((m+3)/4) 1 (((m-1)-i)/4:Nat) (((m-1)-i)/4:Nat) rfl (eQ 7 29 0 l aW 1 0 (((m-1)-i)/4:Nat) (mW ((l).getD (((m-1)-i)/4:Nat) 0)) e oM (eV 8 30 (qS A m cap) (eV 9 31 (nV i) (eX 10 32 A m cap 1 (i:Nat) i ((e.f.1).ok oM) ?_))));have p:=hv ((m-1-i)/4) oM;have H:l.getD ((m-1-i)/4) 0 ||| (n/256^(m-1-i)%256)*2^(8*((m-1-i)%4))=eM n (m-1-i) ((m-1-i)/4):=by rw[p,show m-i=m-1-i+1 by omega];exact s8
 have I:l.getD ((m-1-i)/4) 0<4294967296:=by rw[p];exact oa _ _ _
 have p:=hv ((m-1-i)/4) oM;have H:l.getD ((m-1-i)/4) 0 ||| (n/256^(m-1-i)%256)*2^(8*((m-1-i)%4))=eM n (m-1-i) ((m-1-i)/4):=by rw[p,show m-i=m-1-i+1 by omega];exact s8
 have I:l.getD ((m-1-i)/4) 0<4294967296:=by rw[p];exact oa _ _ _
 refine IP 11 33 (.int .u8 ((fA n m).getD i 0:Nat)) e ((e.f.1).el i oM) (by rw[im n m _ oM]) (eV 12 34 (mW (n/256^(m-1-i)%256)) ?_ (hv:=fun _=>rT (((n/256^(m-1-i)%256:Nat):Int)) kR (m8 oM oM)));refine eV 13 35 (nV ((m-1)-i)) (eV 14 36 (nV (((m-1)-i)%4)) ?_ (hv:=fun _=>aN (d4 (t:=3) (u:=3) (x:=.tmp 35) (y:=.const (iV 4)) (k:=.i64) (a:=(((m-1)-i:Nat):Int)) (b:=(4:Int)) kR kR kR oM _) (cM ((m-1)-i) 4)));refine iR 15 37 (8*(((m-1)-i)%4:Nat)) (8*(((m-1)-i)%4:Nat)) (eV 16 38 (mV (8*(((m-1)-i)%4:Nat))) ?_ (hv:=fun _=>rU (((8*(((m-1)-i)%4:Nat):Nat):Int)) kR (ay oM oM)));refine eV 17 39 (mW ((n/256^(m-1-i)%256)*2^(8*((m-1-i)%4)))) ?_ (hv:=fun _=>xZ (t:=158) (u:=159) (x:=.tmp 34) (y:=.tmp 38) (ky:=.u64) (a:=n/256^(m-1-i)%256) (n:=8*((m-1-i)%4)) kR kR kR oM (mK oM) _);refine eV 18 40 (mW (eM n (m-1-i) ((m-1-i)/4))) ?_ (hv:=fun _=>aN (Ey (t:=158) (u:=158) (x:=.tmp 29) (y:=.tmp 39) (a:=l.getD ((m-1-i)/4) 0) (b:=(n/256^(m-1-i)%256)*2^(8*((m-1-i)%4))) kR kR kR I (mK oM) _) (congrArg Int.ofNat H));refine cG e (fun _ X e=>tX 19 41 (sB B) ((m+3)/4) ((m+3)/4) 1 (((m-1)-i)/4:Nat) (((m-1)-i)/4:Nat) rfl (tW 20 0 l aW 1 (((m-1)-i)/4:Nat) (eM n (m-1-i) ((m-1-i)/4):Nat) e oM (fun _ e=>?_)));have Y:((l).set (((m-1)-i)/4:Nat) (eM n (m-1-i) ((m-1-i)/4):Nat)).length=((m+3)/4):=by rw[List.length_set];exact z
 replace e:=e.to [⟨B,158,((l).set (((m-1)-i)/4:Nat) (eM n (m-1-i) ((m-1-i)/4):Nat)).flatMap aW⟩] [];refine tN (kQ (lL e ac (bg 16 ((i:Nat)+1) (i+1) ?_)));refine lL e ac (lD ?_);intro a_ ka;refine ⟨_,_,?_,⟨i+1,(l).set (((m-1)-i)/4:Nat) (eM n (m-1-i) ((m-1-i)/4):Nat),X,rfl,rfl,e.to _ _,oM,Y,(tM oM z hv rfl)⟩,ka.to _ kR⟩
 omega
def HC (q:Rat):Rat:=if q.num<0 then -q else q
theorem LQ.ln {q:Rat}(h:LQ 100000000 q):(lim (ab q.num)).length<=300000000:=ed (rB _) (by have:=h.1;omega)
theorem LQ.ld {q:Rat}(h:LQ 100000000 q):(lim q.den).length<=300000000:=ed (rB _) (by have:=h.2;omega)
theorem nl {k:Nat}{q:Rat}(h:LQ k q)(a:k<=100000000:=by omega):(lim (ab q.num)).length<=300000000:=LQ.ln (h.mono a)
theorem nD {k:Nat}{q:Rat}(h:LQ k q)(a:k<=100000000:=by omega):(lim q.den).length<=300000000:=LQ.ld (h.mono a)
theorem LQ.int {z:Int}(h0 : -9223372036854775808<=z)(h1:z<=9223372036854775807):LQ 1 (z:Rat):=⟨by rw[J7];exact fE.2 (by unfold ab;omega),by rw[J9];exact fE.2 oM⟩
theorem LQ.lit {z:Int}(h : -9223372036854775808<=z/\z<=9223372036854775807):LQ 1 (z:Rat):=LQ.int h.1 h.2
def Fm (a b:List Rat):Nat->Rat
  | 0=>0
  | k+1=>Fm a b k+a.getD k 0*b.getD k 0
theorem rL (n:Nat)(x:(wds n).length<=100000000)(w:World)(h:Hp)(g:G w h):CR 69 #[nv n] w h (fun v h1=>RN h1 v n):=by
 have a:=sS g;have i:=kL n;refine go Tryz.func69 [(0,nv n)] rfl (aG (lA 1 24 (nc n) a (fun l w2 u a=>lL a ac (aE (lL a [.o (nv n) 0 0 2] (lC 4 a (uU n oM _ _ a.g) ?_))))));rintro _ p k a ⟨e,rfl,b⟩;replace a:=a.aS b;refine lC 5 a (vj n ((nb n+7)/8) e ((nb n+7)/8) (nR _) oM (Dp n) _ _ a.g a.f.1) ?_;rintro _ _ _ a ⟨j,c9,rfl,d,c⟩;replace a:=a.aS c;exact lL a ac (af a [] (qS j ((lim n).length) c9) (⟨_,_,rfl,d,a.f.1⟩))
theorem Aw (z:Int):bE (decide (z.sign<(0:Int))) (ab z)=z:=by
 rcases J3 z 0 with h|h|h
 ·rw[J4 h];unfold bE ab;simp;omega
 ·subst h;rfl
 ·rw[J5 h];unfold bE ab;simp;omega
theorem Cg (z:Int)(D:(wds (ab z)).length<=100000000)(w:World)(h:Hp)(g:G w h):CR 67 #[iv z] w h (fun v h1=>RI h1 v z):=by
 have a:=sS g;refine go Tryz.func67 [(0,iv z)] rfl (aG (lA 1 26 (ic z) a (fun u w2 B a=>lA 2 40 ([qF,sZ]) a (fun C p y a=>ai (cR 7 [] mixed a aw ?_)))));refine eO 0 3 [(1,0,3)] (iv z) a (eO 3 6 [(1,0,3)] (iv z) a (aK 1 4 a (fun _ _ a=>mZ z oM _ _ a.g) (fun o F a=>eV 2 5 (.bool (decide ((z.sign:Int)<(0:Int)))) (aK 4 7 a (fun _ _ a=>El z _ _ a.g) (fun x _ a=>eC 5 8 a (fun _ _ a=>rL (ab z) (by first|exact hq.2|omega) _ _ a.g) ?_)))));rintro _ _ _ _ _ a ⟨l,k,rfl,j,d⟩;replace a:=a.aS d;refine eC 6 9 a (fun _ _ a=>rI (decide ((z.sign:Int)<(0:Int))) (ab z) l k j _ _ a.g a.f.1) ?_;rintro _ _ _ _ _ a ⟨c,b,rfl,e,i⟩;replace a:=a.aS i;exact cG a (fun _ _ a=>tP 7 0 0 ([.bool (au (bE (decide ((z.sign:Int)<(0:Int))) (ab z))),qS c ((lim (ab (bE (decide ((z.sign:Int)<(0:Int))) (ab z)))).length) b]) a (fun _ a=>tN (kX (a.ret [(0,0,2)] (.agg #[.bool (au (bE (decide ((z.sign:Int)<(0:Int))) (ab z))),qS c ((lim (ab (bE (decide ((z.sign:Int)<(0:Int))) (ab z)))).length) b]) (by rw[Aw] at *;exact ⟨_,_,rfl,e,a.f.1⟩)))))
theorem HI (q:Rat)(b:LQ 100000000 q)(w:World)(h:Hp)(g:G w h):CR 38 #[qv q] w h (fun v h1=>RQ h1 v q):=by
 have a:=sS g;refine go Tryz.func38 [(0,qv q)] rfl (aG (lA 1 28 (qc q) a (fun x w2 z a=>lA 2 42 ([qF,sZ,sZ]) a (fun B u y a=>ai (cR 7 [] mixed a aw ?_)))));refine eO 0 3 [(1,0,5)] (qv q) a (eO 3 6 [(1,0,5)] (qv q) a (aK 1 4 a (fun _ _ a=>H9 q _ _ a.g) (fun p C a=>eC 2 5 a (fun _ _ a=>Cg q.num b.1 _ _ a.g) ?_)));rintro _ _ _ _ _ a ⟨i,d,rfl,j,k⟩;replace a:=a.aS k;refine aK 4 7 a (fun _ _ a=>wn q b _ _ a.g) (fun _ _ a=>eC 5 8 a (fun _ _ a=>rL q.den (by first|exact b.2|omega) _ _ a.g) ?_);rintro _ _ _ _ _ a ⟨c,e,rfl,l,o⟩;replace a:=a.aS o;exact eV 6 9 (rG q i d c e) (cG a (fun _ _ a=>tP 7 0 0 (gF q i d c e) a (fun _ a=>tN (kX (a.ret [(0,0,3)] (rG q i d c e) (⟨_,_,_,_,rfl,j,l,a.f.2.1,a.f.1⟩))))))
def Gv (n:Int)(m:Nat):Nat:=(n%(m:Int)).toNat
def FB (n:Int):Rat:=ne ((Gv n 9:Int)-4) (((Gv (n.tdiv 9) 2:Nat):Int)+1)
abbrev RT:=Bool × Value × Value
def Ik (t:RT):List Value:=[.bool t.1,t.2.1,t.2.2]
def GS:RT:=(false,undef,undef)
abbrev rA (t:RT):Value:=.agg #[.bool t.1,t.2.1,t.2.2]
abbrev Sr (A:Z9)(l:List RT):Hp->Prop:=fun h_=>SlO 3 Ik GS h_ A l
def HS (t:RT):Value:=.agg #[.bool t.1,t.2.1,t.2.2]
structure RTs (h:Hp) (ts:List RT) (qs:List Rat):Prop where
  len:ts.length=qs.length
  at_:∀ i,i<qs.length->RQ h (HS (ts.getD i GS)) (qs.getD i 0)
abbrev Rt (t:List RT)(l:List Rat):Hp->Prop:=fun h_=>RTs h_ t l
theorem jG {α:Type}(l:List α)(x d:α)(i:Nat):(l++[x]).getD i d=if i<l.length then l.getD i d else if i=l.length then x else d:=by
 split
 ·rename_i h;simp[List.getElem?_append_left h]
 ·rename_i h
  split
  ·rename_i a;subst a;simp
  ·rename_i a;simp[pk (show (l++[x]).length<=i by simp;omega)]
theorem qy {α:Type}{l:List α}{k:Nat}(d:α)(h:k<l.length):l.take (k+1)=l.take k++[l.getD k d]:=by
 rw[List.take_add_one];simp[h]
def vc (v:Value):List Value:=[v]
abbrev Sv (A:Z9)(l:List Value):Hp->Prop:=fun h_=>SlO 1 vc undef h_ A l
structure RVs (h:Hp) (vs:List Value) (qss:List (List Rat)):Prop where
  len:vs.length=qss.length
  at_:∀ i,i<qss.length->∃ A cap,∃ ts:List RT,vs.getD i undef=.slice A ts.length cap/\ts.length<=cap/\SlO 3 Ik GS h A ts/\RTs h ts (qss.getD i [])
abbrev Ru (t:List Value)(l:List (List Rat)):Hp->Prop:=fun h_=>RVs h_ t l
structure QVs (h:Hp) (vs:List Value) (qss:List (List Rat)):Prop where
  len:vs.length=qss.length
  at_:∀ i,i<qss.length->Hz 5 qc 0 h (vs.getD i undef) (qss.getD i [])
abbrev Qu (t:List Value)(l:List (List Rat)):Hp->Prop:=fun h_=>QVs h_ t l
def HP (a b:Rat):Rat:=if a<b then b else a
structure Lay where
  k:Int
  W:List (List Rat)
  B:List Rat
def iE:Lay:=⟨0,[],[]⟩
abbrev LV:=Int × Value × Value
def FE:LV:=(0,undef,undef)
structure NetL (h:Hp) (ts:List LV) (ls:List Lay):Prop where
  len:ts.length=ls.length
  at_:∀ i,i<ls.length->(ts.getD i FE).1=(ls.getD i iE).k/\(∃ A c,∃ us:List Value,(ts.getD i FE).2.1=.slice A us.length c/\us.length<=c/\SlO 1 vc undef h A us/\QVs h us (ls.getD i iE).W)/\Hz 5 qc 0 h (ts.getD i FE).2.2 (ls.getD i iE).B
abbrev Nn (t:List LV)(l:List Lay):Hp->Prop:=fun h_=>NetL h_ t l
structure RNetL (h:Hp) (ts:List LV) (ls:List Lay):Prop where
  len:ts.length=ls.length
  at_:∀ i,i<ls.length->(ts.getD i FE).1=(ls.getD i iE).k/\(∃ A c,∃ us:List Value,(ts.getD i FE).2.1=.slice A us.length c/\us.length<=c/\SlO 1 vc undef h A us/\RVs h us (ls.getD i iE).W) /\
    (∃ A c,∃ rs:List RT,(ts.getD i FE).2.2=.slice A rs.length c/\rs.length<=c/\SlO 3 Ik GS h A rs/\RTs h rs (ls.getD i iE).B)
abbrev Rn (t:List LV)(l:List Lay):Hp->Prop:=fun h_=>RNetL h_ t l
def uM (l:List Rat):Prop:=∀ q∈l,∃ z,q=FB z
structure LayMk (L:Lay) (kq:Nat) (r c:Nat):Prop where
  k:L.k=(kq:Int)
  rows:L.W.length=r
  row:∀ q∈L.W,q.length=c/\uM q
  bl:L.B.length=r
  bs:uM L.B
structure LayFit (L:Lay):Prop where
  rl:L.W.length<=1000000
  rls:∀ i,i<L.W.length->(L.W.getD i []).length<=1000000
  rf:∀ i,i<L.W.length->∀ j,j<(L.W.getD i []).length->LQ 100000000 ((L.W.getD i []).getD j 0)
  bl:L.B.length<=1000000
  bf:∀ i,i<L.B.length->LQ 100000000 (L.B.getD i 0)
structure Stp where
  op:Int
  a:Int
  b:Int
  n:Int
  q:Rat
abbrev sX (p:Stp):Value:=.agg #[iV p.op,iV p.a,iV p.b,iV p.n,.bool (au p.q.num),uV (lo (ab p.q.num)),.string (hi (ab p.q.num)),uV (lo (qd p.q)),.string (hi (qd p.q))]
abbrev sC (p:Stp):List Value:=[iV p.op,iV p.a,iV p.b,iV p.n,.bool (au p.q.num),uV (lo (ab p.q.num)),.string (hi (ab p.q.num)),uV (lo (qd p.q)),.string (hi (qd p.q))]
abbrev sW (o a b n:Int)(q:Rat):Value:=.agg #[iV o,iV a,iV b,iV n,.bool (au q.num),uV (lo (ab q.num)),.string (hi (ab q.num)),uV (lo (qd q)),.string (hi (qd q))]
abbrev sG (o a b n:Int)(q:Rat):List Value:=[iV o,iV a,iV b,iV n,.bool (au q.num),uV (lo (ab q.num)),.string (hi (ab q.num)),uV (lo (qd q)),.string (hi (qd q))]
def ft:Stp:=⟨0,0,0,0,0⟩
abbrev gP (l:List Stp)(k:Nat):Stp:=l.getD k ft
def fM (op:Int):Int :=
  if op=1\/op=2 then 0 else if op=7\/op=8\/op=9\/op=10\/op=11 then 1
  else if op=3\/op=4\/op=5\/op=6\/op=12\/op=13 then 2 else -1
theorem aU (op:Int):(fM op=0/\(op=1\/op=2))\/(fM op=1/\(op=7\/op=8\/op=9\/op=10\/op=11))\/(fM op=2/\(op=3\/op=4\/op=5\/op=6\/op=12\/op=13))\/(fM op = -1/\(op<1\/13<op)):=by
 unfold fM;split
 ·exact .inl ⟨rfl,by assumption⟩
 ·split
  ·exact .inr (.inl ⟨rfl,by assumption⟩)
  ·split
   ·exact .inr (.inr (.inl ⟨rfl,by assumption⟩))
   ·exact .inr (.inr (.inr ⟨rfl,by omega⟩))
def nS (i:Nat)(tt:Int)(used:Prop):Prop:=(used->0<=tt/\tt<i)/\(¬used->tt=0)
def oe (inp:Int)(i:Nat)(s:Stp):Prop :=
  0<=fM s.op/\nS i s.a (0<fM s.op)/\nS i s.b (1<fM s.op)/\(s.op≠1->s.q.num=0) /\
  (s.op=2->0<=s.n/\s.n<inp)/\(s.op=8 -> -12<=s.n/\s.n<=12)/\(s.op≠2->s.op≠8->s.n=0)
instance (i:Nat) (tt:Int) (u:Prop) [Decidable u]:Decidable (nS i tt u):=by unfold nS;infer_instance
instance (inp:Int) (i:Nat) (s:Stp):Decidable (oe inp i s):=by unfold oe;infer_instance
def vW (n:Nat)(os:List Int):Prop:=∀ i,i<os.length->0<=os.getD i 0/\os.getD i 0<n
instance (n:Nat) (os:List Int):Decidable (vW n os):=by unfold vW;infer_instance
structure RSt where
  op:Int
  a:Int
  b:Int
  n:Int
  t:RT
def HO:RSt:=⟨0,0,0,0,GS⟩
structure OSt where
  op:Int
  a:Int
  b:Int
  n:Int
  q:Rat
  has:Bool
def HL:OSt:=⟨0,0,0,0,0,false⟩
def IX (o:OSt):Nat:=if o.has then o.q.den else 0
structure RS1 (h:Hp) (t:RSt) (o:OSt):Prop where
  op:t.op=o.op
  a:t.a=o.a
  b:t.b=o.b
  n:t.n=o.n
  q:RP h (HS t.t) o.q.num (IX o)
  z:o.has=false->o.q=0
structure RSs (h:Hp) (ts:List RSt) (os:List OSt):Prop where
  len:ts.length=os.length
  at_:∀ i,i<os.length->RS1 h (ts.getD i HO) (os.getD i HL)
structure OSm (o:OSt):Prop where
  op : -1000<=o.op/\o.op<=1000
  a : -1000<=o.a/\o.a<=1000
  b : -1000<=o.b/\o.b<=1000
  n : -1000<=o.n/\o.n<=1000
  q:LQ 1 o.q
inductive Tm where
  | mk (op n:Int) (q:Rat) (s:ByteArray) (ks:List Tm)
def Tm.op:Tm->Int|.mk op _ _ _ _=>op
def Tm.n:Tm->Int|.mk _ n _ _ _=>n
def Tm.q:Tm->Rat|.mk _ _ q _ _=>q
def Tm.s:Tm->ByteArray|.mk _ _ _ s _=>s
def Tm.ks:Tm->List Tm|.mk _ _ _ _ ks=>ks
def cc:Tm:=.mk 0 0 0 ⟨#[]⟩ []
structure PTm where
  op:Int
  n:Int
  q:Rat
  s:ByteArray
  A:Z9
  m:Nat
  c:Nat
abbrev pX (p:PTm):Value:=.agg #[iV p.op,iV p.n,.bool (au p.q.num),uV (lo (ab p.q.num)),.string (hi (ab p.q.num)),uV (lo (qd p.q)),.string (hi (qd p.q)),.string p.s,.slice p.A p.m p.c]
abbrev pC (p:PTm):List Value:=[iV p.op,iV p.n,.bool (au p.q.num),uV (lo (ab p.q.num)),.string (hi (ab p.q.num)),uV (lo (qd p.q)),.string (hi (qd p.q)),.string p.s,.slice p.A p.m p.c]
abbrev pW (o n:Int)(q:Rat)(s:ByteArray)(A:Z9)(m c:Nat):Value:=.agg #[iV o,iV n,.bool (au q.num),uV (lo (ab q.num)),.string (hi (ab q.num)),uV (lo (qd q)),.string (hi (qd q)),.string s,.slice A m c]
abbrev pG (o n:Int)(q:Rat)(s:ByteArray)(A:Z9)(m c:Nat):List Value:=[iV o,iV n,.bool (au q.num),uV (lo (ab q.num)),.string (hi (ab q.num)),uV (lo (qd q)),.string (hi (qd q)),.string s,.slice A m c]
def a6:PTm:=⟨0,0,0,⟨#[]⟩,none,0,0⟩
def bv (p:PTm):List Value:=[.int .i64 p.op,.int .i64 p.n,.bool (au p.q.num),.int .u64 (lo (ab p.q.num)),.string (hi (ab p.q.num)),.int .u64 (lo (qd p.q)),.string (hi (qd p.q)),.string p.s,.slice p.A p.m p.c]
def a8 (p:PTm):Value:=.agg #[.int .i64 p.op,.int .i64 p.n,.bool (au p.q.num),.int .u64 (lo (ab p.q.num)),.string (hi (ab p.q.num)),.int .u64 (lo (qd p.q)),.string (hi (qd p.q)),.string p.s,.slice p.A p.m p.c]
def TmH:Nat->Hp->PTm->Tm->Prop
  | 0,_,_,_=>False
  | d+1,h,p,t=>p.op=t.op/\p.n=t.n/\p.q=t.q/\p.s=t.s/\p.m=t.ks.length/\p.m<=p.c/\∃ ps:List PTm,ps.length=t.ks.length/\SlO 9 bv a6 h p.A ps/\∀ i,i<t.ks.length->TmH d h (ps.getD i a6) (t.ks.getD i cc)
theorem TmH.gw:∀ {d:Nat} {h a:Hp} {p:PTm} {t:Tm},TmH d h p t->Gw h a->TmH d a p t
 | 0,_,_,_,_,x,_=>x
 | d+1,_,_,_,_,⟨h1,h2,h3,h4,h5,h6,ps,h7,h8,h9⟩,u=>⟨h1,h2,h3,h4,h5,h6,ps,h7,h8.gw u,fun i hi=>TmH.gw (h9 i hi) u⟩
theorem TmH.mono {h:Hp}:∀ {d e:Nat} {p:PTm} {t:Tm},TmH d h p t->d<=e->TmH e h p t
 | d+1,e+1,_,_,⟨h1,h2,h3,h4,h5,h6,ps,h7,h8,h9⟩,u=>⟨h1,h2,h3,h4,h5,h6,ps,h7,h8,fun i hi=>TmH.mono (h9 i hi) oM⟩
structure RTm where
  op:Int
  n:Int
  neg:Bool
  zA:Z9
  zn:Nat
  zc:Nat
  dA:Z9
  dn:Nat
  dc:Nat
  s:ByteArray
  A:Z9
  m:Nat
  c:Nat
def RTm.t (r:RTm):RT:=(r.neg,.slice r.zA r.zn r.zc,.slice r.dA r.dn r.dc)
def bZ:RTm:=⟨0,0,false,none,0,0,none,0,0,⟨#[]⟩,none,0,0⟩
def ax (r:RTm):List Value:=[.int .i64 r.op,.int .i64 r.n,.bool r.neg,.slice r.zA r.zn r.zc,.slice r.dA r.dn r.dc,.string r.s,.slice r.A r.m r.c]
def aY (r:RTm):Value:=.agg #[.int .i64 r.op,.int .i64 r.n,.bool r.neg,.slice r.zA r.zn r.zc,.slice r.dA r.dn r.dc,.string r.s,.slice r.A r.m r.c]
def RZ (h:Hp)(t:RT)(q:Rat):Prop:=∃ has:Bool,RP h (HS t) q.num (if has then q.den else 0)/\(has=false->q=0)
theorem RZ.gw {h a:Hp}{t:RT}{q:Rat}(x:RZ h t q)(u:Gw h a):RZ a t q:=by
 obtain ⟨c,h1,b⟩:=x;exact ⟨c,h1.gw u,b⟩
def RmH:Nat->Hp->RTm->Tm->Prop
  | 0,_,_,_=>False
  | d+1,h,r,t=>r.op=t.op/\r.n=t.n/\RZ h r.t t.q/\r.s=t.s/\r.m=t.ks.length/\r.m<=r.c/\∃ rs:List RTm,rs.length=t.ks.length/\SlO 7 ax bZ h r.A rs/\∀ i,i<t.ks.length->RmH d h (rs.getD i bZ) (t.ks.getD i cc)
theorem RmH.gw:∀ {d:Nat} {h a:Hp} {r:RTm} {t:Tm},RmH d h r t->Gw h a->RmH d a r t
 | 0,_,_,_,_,x,_=>x
 | d+1,_,_,_,_,⟨h1,h2,h3,h4,h5,h6,ps,h7,h8,h9⟩,u=>⟨h1,h2,h3.gw u,h4,h5,h6,ps,h7,h8.gw u,fun i hi=>RmH.gw (h9 i hi) u⟩
structure Tms (d:Nat) (h:Hp) (ps:List PTm) (ts:List Tm):Prop where
  len:ps.length=ts.length
  at_:∀ i,i<ts.length->TmH d h (ps.getD i a6) (ts.getD i cc)
theorem Tms.gw {d:Nat}{h a:Hp}{ps:List PTm}{b:List Tm}(x:Tms d h ps b)(u:Gw h a):Tms d a ps b:=⟨x.len,fun i hi=>(x.at_ i hi).gw u⟩
structure Rms (d:Nat) (h:Hp) (rs:List RTm) (ts:List Tm):Prop where
  len:rs.length=ts.length
  at_:∀ i,i<ts.length->RmH d h (rs.getD i bZ) (ts.getD i cc)
theorem Rms.gw {d:Nat}{h a:Hp}{c:List RTm}{b:List Tm}(x:Rms d h c b)(u:Gw h a):Rms d a c b:=⟨x.len,fun i hi=>(x.at_ i hi).gw u⟩
theorem Rms.nil {d:Nat}{h:Hp}:Rms d h [] []:=⟨rfl,fun i hi=>by simp at hi⟩
theorem Rms.snoc {d:Nat}{h:Hp}{b:List RTm}{a:List Tm}{r:RTm}{t:Tm}(x:Rms d h b a)(y:RmH d h r t):Rms d h (b++[r]) (a++[t]):=by
 refine ⟨by simp[x.len],fun i hi=>?_⟩;rw[List.length_append,List.length_singleton] at hi
 rw[jG,jG,x.len]
 by_cases e:i<a.length
 ·rw[if_pos e,if_pos e];exact x.at_ i e
 ·rw[if_neg e,if_neg e,if_pos oM,if_pos oM];exact y
theorem Tms.nil {d:Nat}{h:Hp}:Tms d h [] []:=⟨rfl,fun i hi=>by simp at hi⟩
theorem TmH.mk {d:Nat}{h:Hp}{op n:Int}{q:Rat}{s:ByteArray}{A:Z9}{c:Nat}{ps:List PTm}{ks:List Tm}(x:Tms d h ps ks)(b:ps.length<=c)(a:SlO 9 bv a6 h A ps):TmH (d+1) h ⟨op,n,q,s,A,ps.length,c⟩ (.mk op n q s ks) :=
 ⟨rfl,rfl,rfl,rfl,x.len,b,ps,x.len,a,x.at_⟩
theorem RmH.mk {d:Nat}{h:Hp}{op n:Int}{b:Bool}{i e:Z9}{j f a k:Nat}{q:Rat}{s:ByteArray}{A:Z9}{c:Nat}{ps:List RTm}{ks:List Tm}(z:RZ h (b,.slice i j f,.slice e a k) q)(x:Rms d h ps ks)(l:ps.length<=c)(o:SlO 7 ax bZ h A ps):RmH (d+1) h ⟨op,n,b,i,j,f,e,a,k,s,A,ps.length,c⟩ (.mk op n q s ks) :=
 ⟨rfl,rfl,z,rfl,x.len,l,ps,x.len,o,x.at_⟩
theorem TmH.open {d:Nat}{h:Hp}{p:PTm}{t:Tm}(x:TmH (d+1) h p t):∃ op n q s A c,∃ ps:List PTm,∃ ks:List Tm,p=⟨op,n,q,s,A,ps.length,c⟩/\t=.mk op n q s ks/\ps.length<=c/\SlO 9 bv a6 h A ps/\Tms d h ps ks:=by
  obtain ⟨op,n,q,s,A,m,c⟩:=p;cases t with
  | mk ja n2 q2 s2 ks =>
    obtain ⟨h1,i,j,b,k,f,ps,a,l,e⟩:=x;obtain rfl:op=ja:=h1;obtain rfl:n=n2:=i;obtain rfl:q=q2:=j;obtain rfl:s=s2:=b;obtain rfl:m=ps.length:=(show m=ks.length from k).trans a.symm;exact ⟨op,n,q,s,A,c,ps,ks,rfl,rfl,f,l,a,e⟩
theorem RmH.mono {h:Hp}{d e:Nat}{p:RTm}{t:Tm}(x:RmH d h p t)(u:d<=e):RmH e h p t:=by
  induction d generalizing e p t with
  | zero=>exact x.elim
  | succ d ih =>
    cases e with
    | zero=>omega
    | succ e =>
      obtain ⟨h1,j,k,b,l,f,ps,a,o,c⟩:=x;exact ⟨h1,j,k,b,l,f,ps,a,o,fun i hi=>ih (c i hi) oM⟩
theorem RmH.open {d:Nat}{h:Hp}{p:RTm}{t:Tm}(x:RmH (d+1) h p t):∃ op n b i j f e a k q s A c,∃ ps:List RTm,∃ ks:List Tm,p=⟨op,n,b,i,j,f,e,a,k,s,A,ps.length,c⟩/\t=.mk op n q s ks/\RZ h (b,.slice i j f,.slice e a k) q/\ps.length<=c/\SlO 7 ax bZ h A ps/\Rms d h ps ks:=by
  obtain ⟨op,n,b,i,j,f,e,a,k,s,A,m,c⟩:=p;cases t with
  | mk ja n2 q2 s2 ks =>
    obtain ⟨h1,z,B,o,C,y,ps,l,D,u⟩:=x;obtain rfl:op=ja:=h1;obtain rfl:n=n2:=z;obtain rfl:s=s2:=o;obtain rfl:m=ps.length:=(show m=ks.length from C).trans l.symm;exact ⟨op,n,b,i,j,f,e,a,k,q2,s,A,c,ps,ks,rfl,rfl,B,y,D,l,u⟩
def f4 (f:Nat->Nat):Nat->Nat
  | 0=>0
  | k+1=>f4 f k+f k
def cY (n:Int):Nat:=if n.natAbs<=1 then 1 else n.natAbs
def d8:Nat->Tm->Nat
  | 0,_=>0
  | d+1,t=>if t.ks.length=0 then 1 else (if t.op=11 then 2 else if t.op=8 then cY t.n else 1)*f4 (fun i=>d8 d (t.ks.getD i cc)) t.ks.length
def WfT (ok:ByteArray->Prop):Nat->Tm->Prop
  | 0,_=>False
  | d+1,t=>fM t.op=t.ks.length/\(t.op≠1->t.q=0)/\LQ 3000 t.q/\(t.op=2->ok t.s)/\(t.op≠2->t.s=⟨#[]⟩)/\(t.op≠8->t.n=0) /\ -12<=t.n/\t.n<=12/\∀ i,i<t.ks.length->WfT ok d (t.ks.getD i cc)
theorem WfT.mono {ok:ByteArray->Prop}:∀ {d e:Nat} {t:Tm},WfT ok d t->d<=e->WfT ok e t
 | d+1,e+1,_,⟨h1,h2,h3,h4,h5,h6,h7,h8,h9⟩,u=>⟨h1,h2,h3,h4,h5,h6,h7,h8,fun i hi=>WfT.mono (h9 i hi) oM⟩
def SmT (sm:ByteArray->Prop):Nat->Tm->Prop
  | 0,_=>False
  | d+1,t=>t.ks.length<=3/\(-1000<=t.op/\t.op<=1000)/\(-1000<=t.n/\t.n<=1000)/\LQ 3000 t.q/\sm t.s/\∀ i,i<t.ks.length->SmT sm d (t.ks.getD i cc)
theorem SmT.mono {sm:ByteArray->Prop}:∀ {d e:Nat} {t:Tm},SmT sm d t->d<=e->SmT sm e t
 | d+1,e+1,_,⟨h1,h2,h3,h4,h5,h6⟩,u=>⟨h1,h2,h3,h4,h5,fun i hi=>SmT.mono (h6 i hi) oM⟩
theorem WfT.sm {ok sm:ByteArray->Prop}(h:∀ s,ok s->sm s)(h0:sm ⟨#[]⟩):∀ {d:Nat} {t:Tm},WfT ok d t->SmT sm d t
  | d+1,t,⟨h1,h2,h3,h4,h5,h6,h7,h8,h9⟩=>by
    have a:=aU t.op;refine ⟨by omega,⟨by omega,by omega⟩,⟨by omega,by omega⟩,h3,?_,fun i hi=>WfT.sm h h0 (h9 i hi)⟩
    by_cases e:t.op=2
    . exact h _ (h4 e)
    . rw[h5 e];exact h0
def F4 (ok:ByteArray->Prop):Nat->Tm->Prop
  | 0,_=>False
  | d+1,t=>fM t.op=t.ks.length/\(t.op≠1->t.q=0)/\LQ 1 t.q/\(t.op=2->ok t.s)/\(t.op≠2->t.s=⟨#[]⟩)/\(t.op≠8->t.n=0) /\ -12<=t.n/\t.n<=12/\∀ i,i<t.ks.length->F4 ok d (t.ks.getD i cc)
def HV (isb:ByteArray->Bool)(op n:Int)(q:Rat)(s:ByteArray)(m:Nat):Prop:=fM op=m/\(op=1\/q.num=0)/\((op=2->isb s=true)/\(op≠2->s=⟨#[]⟩))/\((op=8\/n=0) /\ -12<=n/\n<=12)
section
variable {isb:ByteArray->Bool}{d:Nat}{op n:Int}{q:Rat}{s:ByteArray}{ks:List Tm}
theorem Bl (w:WfT (fun s=>isb s=true) (d+1) (.mk op n q s ks)):HV isb op n q s ks.length:=by
 obtain ⟨h1,f,k,i,c,b,a,h,j⟩:=w;refine ⟨h1,?_,⟨i,c⟩,?_,a,h⟩
 ·by_cases e:op=1
  ·exact .inl e
  ·exact .inr (Kd.2 (f e))
 ·by_cases e:op=8
  ·exact .inl e
  ·exact .inr (b e)
theorem pQ (h:¬HV isb op n q s ks.length):∃ a,Value.bool false=.bool a/\(a=true↔WfT (fun s=>isb s=true) (d+1) (.mk op n q s ks)):=⟨false,rfl,fun b=>(by cases b),fun w=>absurd (Bl w) h⟩
theorem C2 {k:Nat}(i:k<ks.length){b:Bool}(c:b=false)(h:b=true↔WfT (fun s=>isb s=true) d (ks.getD k cc)):∃ a,Value.bool false=.bool a/\(a=true↔WfT (fun s=>isb s=true) (d+1) (.mk op n q s ks)):=⟨false,rfl,fun e=>(by cases e),fun ⟨_,_,_,_,_,_,_,_,f⟩=>by rw[h.2 (f k i)] at c;cases c⟩
theorem CK (h:HV isb op n q s ks.length)(c:LQ 3000 q)(o:∀ i,i<ks.length->WfT (fun s=>isb s=true) d (ks.getD i cc)):∃ a,Value.bool true=.bool a/\(a=true↔WfT (fun s=>isb s=true) (d+1) (.mk op n q s ks)):=by
 obtain ⟨h1,k,⟨p,j⟩,f,b,l⟩:=h;refine ⟨true,rfl,fun _=>⟨h1,fun e=>Kd.1 (k.resolve_left e),c,p,j,fun e=>f.resolve_left e,b,l,o⟩,fun _=>rfl⟩
end
def FL (nm:Int->ByteArray)(l:List Stp):Nat->Nat->Tm
  | 0,_=>cc
  | f+1,i =>
    if (l.getD i ft).op=2 then .mk 2 0 0 (nm (l.getD i ft).n) []
    else if fM (l.getD i ft).op=1 then .mk (l.getD i ft).op (l.getD i ft).n 0 ⟨#[]⟩ [FL nm l f (l.getD i ft).a.toNat]
    else if fM (l.getD i ft).op=2 then .mk (l.getD i ft).op 0 0 ⟨#[]⟩ [FL nm l f (l.getD i ft).a.toNat,FL nm l f (l.getD i ft).b.toNat]
    else .mk (l.getD i ft).op 0 (l.getD i ft).q ⟨#[]⟩ []
structure MapJ (h0:Hp) (B:List Bx) (w:World) (h:Hp) (b:Nat) (es:List MapEntry) (clk:Nat):Prop where
  obj:w.heap[b]?=some (.map es.toArray clk)
  jk:h[b]?=some junk
  lo:h0.size<=b
  nb:∀ x∈B,x.b≠b
def MapS (h:Hp)(b:Nat)(es:List MapEntry):Prop:=∃ clk,h[b]?=some (.map es.toArray clk)
theorem MapS.gw {h a:Hp}{b:Nat}{d:List MapEntry}(x:MapS h b d)(u:Gw h a):MapS a b d:=by
 obtain ⟨c,e⟩:=x;refine ⟨c,?_⟩
 rcases u.blk b (aI e) with k|k
 ·exact k.trans e
 ·rw[e] at k;cases k
theorem MapS.w {w:World}{h:Hp}{b:Nat}{d:List MapEntry}(x:MapS h b d)(g:G w h):∃ a,w.heap[b]?=some (.map d.toArray a):=by
 obtain ⟨c,e⟩:=x;refine ⟨c,?_⟩
 rcases g.blk b with k|k
 ·rw[<-k];exact e
 ·rw[e] at k;cases k
theorem Ca {P:Program}(w:World){c e l:TypeId}{b a:Nat}{d:Array MapEntry}{s:ByteArray}{val:Value}(j:P.underlying c=some (.map e l))(h:P.underlying e=some .string)(f:w.heap[b]?=some (.map d a))(hf:Instr.findNow .string (.string s) d.toList 0=some none) :
  (Instr.mapUpdate c (.map (some b)) (.string s) val).run P w=.ok () { w with heap:=w.heap.setIfInBounds b (.map (d.push { key:=.string s,val:=val,born:=a }) (a+1)) }:=by
 have i:(Instr.checkKey false 10000 e (.string s)).run P w=.ok () w:=MapKept.run_checkKey (k:=.string s) h (by simp[MapKept.IsKey]) false 9999
 simp[Instr.mapUpdate,run_underlying j,MapKept.run_getObj_map f,i,MapKept.run_findKey h hf,MapKept.run_setObj_map _ f,Result.andThen]
theorem wL {P:Program}(w:World){a e o:TypeId}{b d:Nat}{c:Array MapEntry}{s:ByteArray}(ok:Bool){v:Value}{found:Bool}(j:P.underlying a=some (.map e o))(f:P.underlying e=some .string)(l:w.heap[b]?=some (.map c d))
  (hf:(∃ i,Instr.findNow .string (.string s) c.toList 0=some (some (i,v))/\found=true)\/(Instr.findNow .string (.string s) c.toList 0=some none/\found=false/\(zeroValue o).run P w=.ok v w)) :
  (Instr.lookup a (.map (some b)) (.string s) ok).run P w=.ok (if ok then .tuple #[v,.bool found] else v) w:=by
 have h:(Instr.checkKey c.isEmpty 10000 e (.string s)).run P w=.ok () w:=MapKept.run_checkKey (k:=.string s) f (by simp[MapKept.IsKey]) _ 9999
 rcases hf with ⟨i,hf,rfl⟩|⟨hf,rfl,hz⟩
 ·simp[Instr.lookup,run_underlying j,MapKept.run_getObj_map l,h,MapKept.run_findKey f hf,Result.andThen]
 ·simp[Instr.lookup,run_underlying j,MapKept.run_getObj_map l,h,MapKept.run_findKey f hf,hz,Result.andThen]
theorem Cp {w:World}{b:Nat}{o o':Obj}(e:w.heap[b]?=some o):Put b w { w with heap:=w.heap.setIfInBounds b o' }/\({ w with heap:=w.heap.setIfInBounds b o' }:World).heap[b]?=some o':=by
 have a:b<w.heap.size:=(g3.1 e).1;refine ⟨⟨rfl,rfl,rfl,by simp,fun c d=>by show (w.heap.setIfInBounds b o')[c]?=_;rw[g6 (Ne.symm d)]⟩,?_⟩
 show (w.heap.setIfInBounds b o')[b]?=_
 rw[yy a]
section laws
variable {P:Program}{n:Nat}{N R:Po}{X:Nat->Po}{ops:Array Oper}{k:Nat}{Γ:ck}{w:World}{h:Hp}{w0:World}{h0:Hp}{B:List Bx}{Rs:List Rw}{F:List (Hp->Prop)}
theorem SS.pokeJ (s:SS w0 h0 w h B [] F){b:Nat}{w':World}(c:h[b]?=some junk)(e:h0.size<=b)(d:∀ x∈B,x.b≠b)(p:Put b w w'):SS w0 h0 w' h B [] F :=
 ⟨s.g0,⟨s.st.up.put p c e s.g0.size,fun x a=>(p.blk _ (d x a)).trans (s.st.own x a),s.st.jk,s.st.lo,s.st.nd⟩,fun _ a=>(by cases a),.nil,s.mo,s.f⟩
theorem IH (t:Nat)(s:SS w0 h0 w h B Rs F)(H:∀ b w' h',SS w0 h0 w' h' B Rs F->MapJ h0 B w' h' b [] 0->LG P n N R X ops (k+1) ((t,.map (some b))::Γ) w')(a:cL ops Γ k t n=true:=by kernel_rfl)
  (hr:(execOp (ev Γ) (av ops k)).run P w=.ok (.value (.map (some w.heap.size))) (w.alloc (.map #[] 0)):=by kernel_rfl):LG P n N R X ops k Γ w:=by
 have u:Up w h (w.alloc (.map #[] 0)) (h.push junk):=Up.allocAny s.g _ _ (.inr rfl);refine LG.val t _ _ (bS a).1 (bS a).2 hr (H _ _ _ (s.step u) ⟨?_,?_,?_,fun x c e=>?_⟩)
 ·rw[dq];exact e0
 ·rw[s.g.size];exact e0
 ·rw[s.g.size];exact s.st.sz
 ·have:=aI (s.st.jk x c)
  have:=s.g.size
  omega
theorem Gs {b a:Nat}{d:List MapEntry}(c f l:TypeId)(ky:ByteArray)(val:Value)(s:SS w0 h0 w h B [] F)(m:MapJ h0 B w h b d a)(H:∀ w',SS w0 h0 w' h B [] F->MapJ h0 B w' h b (d++[⟨.string ky,val,a⟩]) (a+1)->LG P n N R X ops (k+1) Γ w')
  (e:cS ops Γ k=true:=by kernel_rfl)(j:execOp (ev Γ) (av ops k)=(do Instr.mapUpdate c (.map (some b)) (.string ky) val;pure .skip):=by kernel_rfl)(hu:P.underlying c=some (.map f l):=by kernel_rfl)(i:P.underlying f=some .string:=by kernel_rfl)(hf:Instr.findNow .string (.string ky) d 0=some none:=by kernel_rfl):LG P n N R X ops k Γ w:=by
 have hr:=Ca w (val:=val) hu i m.obj hf;obtain ⟨p,o⟩:=Cp (o':=.map (d.toArray.push { key:=.string ky,val:=val,born:=a }) (a+1)) m.obj;refine LG.store _ (kj e).1 (kj e).2 ?_ (H _ (s.pokeJ m.jk m.lo m.nb p) ⟨?_,m.jk,m.lo,m.nb⟩)
 ·rw[j];simp[hr,Result.andThen]
 ·rw[o];simp
theorem Il (t:Nat){b:Nat}{c:List MapEntry}(a f e:TypeId)(ky:ByteArray)(ok:Bool)(v:Value)(found:Bool)(s:SS w0 h0 w h B Rs F)(m:MapS h b c)(H:LG P n N R X ops (k+1) ((t,if ok then .tuple #[v,.bool found] else v)::Γ) w)(d:cL ops Γ k t n=true:=by kernel_rfl)
  (o:execOp (ev Γ) (av ops k)=(do pure (.value (<-Instr.lookup a (.map (some b)) (.string ky) ok))):=by kernel_rfl)(hu:P.underlying a=some (.map f e):=by kernel_rfl)(j:P.underlying f=some .string:=by kernel_rfl)
  (hf:(∃ i,Instr.findNow .string (.string ky) c 0=some (some (i,v))/\found=true)\/(Instr.findNow .string (.string ky) c 0=some none/\found=false/\∀ w,(zeroValue e).run P w=.ok v w)):LG P n N R X ops k Γ w:=by
 obtain ⟨l,p⟩:=m.w s.g;refine LG.val t _ w (bS d).1 (bS d).2 ?_ H;rw[o];have hr:=wL w ok (v:=v) (found:=found) hu j p (hf.imp id fun h=>⟨h.1,h.2.1,h.2.2 w⟩)
 simp[hr,Result.andThen]
theorem SS.pubMap {b a:Nat}{j:List MapEntry}(s:SS w0 h0 w h B [] F)(m:MapJ h0 B w h b j a):∃ k,SS w0 h0 w k B [] F/\MapS k b j:=by
 have d:=aI m.jk;refine ⟨h.setIfInBounds b (.map j.toArray a),⟨s.g0,⟨⟨s.st.up.ext,⟨by simp;exact s.st.up.gr.size,fun c l=>?_⟩,⟨by simp;exact s.st.up.g.size,fun c=>?_⟩⟩,s.st.own,fun x i=>?_,s.st.lo,s.st.nd⟩,fun _ i=>(by cases i),.nil,s.mo,s.f.gw s.mo ⟨by simp,fun c _=>?_⟩⟩,a,?_⟩
 ·have:=m.lo
  rw[g6 oM];exact s.st.up.gr.blk c l
 ·by_cases e:b=c
  ·subst e;left;rw[yy d];exact m.obj.symm
  ·rw[g6 e];exact s.st.up.g.blk c
 ·rw[g6 (Ne.symm (m.nb x i))];exact s.st.jk x i
 ·by_cases e:b=c
  ·subst e;exact .inr m.jk
  ·left;rw[g6 e]
 ·rw[yy d]
end laws
def dL (c:Nat):Prop:=(97<=c/\c<=122)\/(65<=c/\c<=90)
def kh (c:Nat):Prop:=((97<=c/\c<=122)\/(65<=c/\c<=90))\/(48<=c/\c<=57)\/c=95
instance (c:Nat):Decidable (dL c):=by unfold dL;infer_instance
instance (c:Nat):Decidable (kh c):=by unfold kh;infer_instance
def ag (s:ByteArray):Int:=if s=⟨#[97,98,115]⟩ then 9 else if s=⟨#[114,97,109,112]⟩ then 10 else if s=⟨#[98,101,110,100]⟩ then 11 else if s=⟨#[109,97,120]⟩ then 12 else if s=⟨#[109,105,110]⟩ then 13 else 0
def gW (s:ByteArray):Int:=if ag s=0 then 0 else if ag s<=11 then 1 else 2
def bU (s:ByteArray):Bool:=decide (ag s≠0)
def cD (s:ByteArray):Bool:=decide (1<=s.size/\s.size<=20/\dL (aj s 0)/\(∀ i,i<s.size->kh (aj s i))/\bU s=false)
theorem mn {s:ByteArray}(h:¬(1<=s.size/\s.size<=20/\dL (aj s 0))):Value.bool false=.bool (cD s):=congrArg Value.bool (decide_eq_false fun x=>h ⟨x.1,x.2.1,x.2.2.1⟩).symm
theorem Dd {s:ByteArray}{i:Nat}(h:i<s.size)(a:¬kh (aj s i)):Value.bool false=.bool (cD s):=congrArg Value.bool (decide_eq_false fun x=>a (x.2.2.2.1 i h)).symm
theorem Bk {s:ByteArray}(h1:1<=s.size/\s.size<=20)(a:dL (aj s 0))(b:∀ i,i<s.size->kh (aj s i)):cD s = !bU s:=by
 unfold cD
 cases h:bU s
 ·exact decide_eq_true ⟨h1.1,h1.2,a,b,rfl⟩
 ·exact decide_eq_false fun x=>by cases x.2.2.2.2
def gI:List MapEntry:=[⟨.string ⟨#[97,98,115]⟩,.int .i64 9,0⟩,⟨.string ⟨#[114,97,109,112]⟩,.int .i64 10,1⟩,⟨.string ⟨#[98,101,110,100]⟩,.int .i64 11,2⟩,⟨.string ⟨#[109,97,120]⟩,.int .i64 12,3⟩,⟨.string ⟨#[109,105,110]⟩,.int .i64 13,4⟩]
theorem nP (s:ByteArray):(∃ i,Instr.findNow .string (.string s) gI 0=some (some (i,.int .i64 (ag s)))/\bU s=true)\/(Instr.findNow .string (.string s) gI 0=some none/\bU s=false/\ag s=0):=by
 by_cases h1:s=⟨#[97,98,115]⟩
 ·subst h1;exact .inl ⟨0,by kernel_rfl,by decide⟩
 by_cases h2:s=⟨#[114,97,109,112]⟩
 ·subst h2;exact .inl ⟨1,by kernel_rfl,by decide⟩
 by_cases h3:s=⟨#[98,101,110,100]⟩
 ·subst h3;exact .inl ⟨2,by kernel_rfl,by decide⟩
 by_cases h4:s=⟨#[109,97,120]⟩
 ·subst h4;exact .inl ⟨3,by kernel_rfl,by decide⟩
 by_cases h5:s=⟨#[109,105,110]⟩
 ·subst h5;exact .inl ⟨4,by kernel_rfl,by decide⟩
 have f:ag s=0:=by unfold ag;rw[if_neg h1,if_neg h2,if_neg h3,if_neg h4,if_neg h5]
 refine .inr ⟨?_,by unfold bU;rw[f];rfl,f⟩
 rcases MapKept.findNow_spec (d:=.string) (k:=.string s) (by simp[MapKept.IsKey]) gI 0 (fun x h=>by
  simp only[gI,List.mem_cons,List.not_mem_nil,or_false] at h
  rcases h with rfl|rfl|rfl|rfl|rfl<;>simp[MapKept.IsKey]) with ⟨a,_⟩|⟨j,e,a,b,c⟩
 ·exact a
 ·exfalso
  match j,b with
  | 0,b=>injection b with b;subst b;injection c with c;exact h1 c.symm
  | 1,b=>injection b with b;subst b;injection c with c;exact h2 c.symm
  | 2,b=>injection b with b;subst b;injection c with c;exact h3 c.symm
  | 3,b=>injection b with b;subst b;injection c with c;exact h4 c.symm
  | 4,b=>injection b with b;subst b;injection c with c;exact h5 c.symm
  | n+5,b=>cases b
def pn (p:Nat->Bool)(s:ByteArray):Nat->Nat->Nat
  | 0,a=>a
  | f+1,a=>if a<s.size/\p (aj s a)=true then pn p s f (a+1) else a
def rn (p:Nat->Bool)(s:ByteArray)(a:Nat):Nat:=pn p s (s.size-a) a
theorem qJ (p:Nat->Bool)(s:ByteArray):∀ f a,a<=pn p s f a
  | 0,a=>eb a
  | f+1,a=>by
    unfold pn;split
    . exact ed (Nat.le_succ a) (qJ p s f (a+1))
    . exact eb a
theorem xc (p:Nat->Bool)(s:ByteArray):∀ f a,a<=s.size->pn p s f a<=s.size
  | 0,a,h=>h
  | f+1,a,h=>by
    unfold pn;split
    . rename_i c;exact xc p s f (a+1) c.1
    . exact h
theorem fV (p:Nat->Bool)(s:ByteArray)(a:Nat):a<=rn p s a:=qJ p s _ a
theorem dC {p:Nat->Bool}{s:ByteArray}{a:Nat}(h:a<=s.size):rn p s a<=s.size:=xc p s _ a h
theorem wd {p:Nat->Bool}{s:ByteArray}{j:Nat}:∀ f a,s.size-a<=f->a<=j->j<=s.size->(∀ i,a<=i->i<j->p (aj s i)=true)->(j=s.size\/p (aj s j)=false)->pn p s f a=j
  | 0,a,h1,h2,h3,_,_=>by show a=j;omega
  | f + 1,a,h1,h2,h3,h4,h5=>by
    unfold pn
    by_cases e:a=j
    . subst e
      rw[if_neg];rintro ⟨d,b⟩
      rcases h5 with h5|h5
      . omega
      . rw[h5] at b;cases b
    . rw[if_pos ⟨by omega,h4 a (eb a) oM⟩]
      exact wd f (a+1) oM oM h3 (fun i hi c=>h4 i oM c) h5
theorem dX {p:Nat->Bool}{s:ByteArray}{a j:Nat}(b:a<=j)(e:j<=s.size)(d:∀ i,a<=i->i<j->p (aj s i)=true)(c:j=s.size\/p (aj s j)=false):rn p s a=j:=wd _ a (eb _) b e d c
theorem ju (p:Nat->Bool)(s:ByteArray):∀ f a,s.size-a<=f->pn p s f a<s.size->p (aj s (pn p s f a))=false
  | 0,a,h1,b=>by
    have b:a<s.size:=b
    omega
  | f + 1,a,h1,b=>by
    unfold pn at b ⊢
    split
    . rename_i c;rw[if_pos c] at b;exact ju p s f (a+1) oM b
    . rename_i c;rw[if_neg c] at b
      cases h:p (aj s a) with
      | true=>exact absurd ⟨b,h⟩ c
      | false=>rfl
def x7 (c:Nat):Bool:=decide (c=32)
def bM (c:Nat):Bool:=decide (48<=c/\c<=57)
def cH (c:Nat):Bool:=decide ((48<=c/\c<=57)\/c=46)
def bF (c:Nat):Bool:=decide (kh c)
def cg (c:Nat):Bool:=decide (c≠93)
def sk (s:ByteArray)(a:Nat):Nat:=rn x7 s a
theorem eE (s:ByteArray)(a:Nat):a<=sk s a:=fV _ s a
theorem bD {s:ByteArray}{a:Nat}(h:a<=s.size):sk s a<=s.size:=dC h
theorem pH (s:ByteArray)(a:Nat):sk s (sk s a)=sk s a:=by
 rcases co (sk s a) s.size with h1|h1
 ·exact dX (eb _) (Nat.le_of_lt h1) (fun i b c=>absurd b oM) (.inr (ju x7 s (s.size-a) a (eb _) h1))
 ·show pn x7 s (s.size-sk s a) (sk s a)=sk s a
  rw[show s.size-sk s a=0 by omega];rfl
theorem cw {s:ByteArray}{a:Nat}(h:s.size<=a):aj s a=0:=by
 unfold aj
 rw[B1,pk (by simpa using h)];rfl
theorem cp {s:ByteArray}{a:Nat}(h:aj s a≠0):a<s.size:=by
 rcases co a s.size with h1|h1
 ·exact h1
 ·exact absurd (cw h1) h
inductive PR where
  | ok (t:Tm) (a:Nat)
  | err (b:Nat)
inductive PKd where
  | sum|prod|sign|pow|atom
  | call (op:Int)
  | more (lv:Bool) (t:Tm)
def fS (op:Int)(t:Tm):Tm:=.mk op 0 0 ⟨#[]⟩ [t]
def bz (op:Int)(t u:Tm):Tm:=.mk op 0 0 ⟨#[]⟩ [t,u]
def dm (q:Rat):Tm:=.mk 1 0 q ⟨#[]⟩ []
def dE (s:ByteArray):Tm:=.mk 2 0 0 s []
def fW (x:Option PR)(f:Tm->Nat->Option PR):Option PR:=match x with
  | none=>none
  | some (.ok t a)=>f t a
  | some (.err b)=>some (.err b)
def dv (s:ByteArray):Nat->Nat
  | 0=>0
  | n+1=>dv s n*10+(aj s n-48)
def ef (s:ByteArray):Option Nat:=if s.size=0\/(1<s.size/\aj s 0=48)\/¬(∀ i,i<s.size->bM (aj s i)=true) then none else some (dv s s.size)
theorem fb {x:ByteArray}{k:Nat}(h:ef x=some k):1<=x.size/\(1<x.size->aj x 0≠48)/\(∀ i,i<x.size->48<=aj x i/\aj x i<=57)/\k=dv x x.size:=by
 unfold ef at h
 by_cases c:x.size=0\/(1<x.size/\aj x 0=48)\/¬(∀ i,i<x.size->bM (aj x i)=true)
 ·rw[if_pos c] at h;cases h
 ·rw[if_neg c] at h;injection h with h
  refine ⟨by omega,fun h1 a=>c (.inr (.inl ⟨h1,a⟩)),fun i hi=>?_,h.symm⟩;exact oT (Decidable.byContradiction fun a=>c (.inr (.inr (fun b=>a (b i hi)))))
theorem fR {x:ByteArray}:∀ n,(∀ i,i<n->48<=aj x i/\aj x i<=57)->dv x n<10^n
  | 0,_=>Nat.one_pos
  | n+1,h=>by
    have h1:=fR n (fun i hi=>h i oM);have a:=h n oM
    show dv x n*10+(aj x n-48)<10^(n+1)
    rw[z1];omega
theorem jp {x:ByteArray}{k:Nat}(h:ef x=some k)(b:x.size<=3):k<=999:=by
 obtain ⟨h1,_,a,rfl⟩:=fb h;have d:=fR x.size a;have c:10^x.size<=10^3:=A4 kD b
 omega
def c1 (lv:Bool):Nat:=if lv then 42 else 43
def c2 (lv:Bool):Nat:=if lv then 47 else 45
def kn (lv:Bool):Int:=if lv then 5 else 3
def ja (lv:Bool):Int:=if lv then 6 else 4
def part (lv:Bool):PKd:=if lv then .sign else .prod
def jv (s:ByteArray)(t:Tm)(a:Nat):PR :=
  let m:Bool:=decide (aj s (sk s a)=45)
  let b:=sk s (if m then sk s a+1 else sk s a)
  let e:=rn bM s b
  if 3<e-b then .err b else match ef (s.extract b e) with
    | none=>.err b
    | some k=>.ok (.mk 8 (if m then -(k:Int) else k) 0 ⟨#[]⟩ [t]) e
section
variable (nf bf:ByteArray->Option Rat)(s:ByteArray)
def bj : Nat->PKd->Nat->Option PR
  | 0,_,_=>none
  | n+1,.sum,a=>fW (bj n .prod a) fun t b=>bj n (.more false t) b
  | n+1,.prod,a=>fW (bj n .sign a) fun t b=>bj n (.more true t) b
  | n+1,.more lv t,a =>
    if aj s (sk s a)=c1 lv then fW (bj n (part lv) (sk s a+1)) fun u b=>bj n (.more lv (bz (kn lv) t u)) b
    else if aj s (sk s a)=c2 lv then fW (bj n (part lv) (sk s a+1)) fun u b=>bj n (.more lv (bz (ja lv) t u)) b
    else some (.ok t (sk s a))
  | n+1,.sign,a=>if aj s (sk s a)=45 then fW (bj n .sign (sk s a+1)) fun t b=>some (.ok (fS 7 t) b) else bj n .pow (sk s a)
  | n+1,.pow,a=>fW (bj n .atom a) fun t b=>if aj s (sk s b)=94 then some (jv s t (sk s b+1)) else some (.ok t (sk s b))
  | n + 1,.atom,a =>
    if cH (aj s (sk s a))=true then match nf (s.extract (sk s a) (rn cH s (sk s a))) with
      | some q=>some (.ok (dm q) (rn cH s (sk s a)))
      | none=>some (.err (sk s a))
    else if dL (aj s (sk s a))\/aj s (sk s a)=95 then
      if bU (s.extract (sk s a) (rn bF s (sk s a)))=true then bj n (.call (ag (s.extract (sk s a) (rn bF s (sk s a))))) (rn bF s (sk s a))
      else if cD (s.extract (sk s a) (rn bF s (sk s a)))=true then some (.ok (dE (s.extract (sk s a) (rn bF s (sk s a)))) (rn bF s (sk s a)))
      else some (.err (sk s a))
    else if aj s (sk s a)=91 then
      if rn cg s (sk s a+1)=s.size then some (.err (sk s a)) else match bf (s.extract (sk s a+1) (rn cg s (sk s a+1))) with
      | some q=>some (.ok (dm q) (rn cg s (sk s a+1)+1))
      | none=>some (.err (sk s a))
    else if aj s (sk s a)=40 then fW (bj n .sum (sk s a+1)) fun t b=>if aj s (sk s b)=41 then some (.ok t (sk s b+1)) else some (.err (sk s b))
    else some (.err (sk s a))
  | n + 1,.call op,a =>
    if aj s (sk s a)=40 then fW (bj n .sum (sk s a+1)) fun t b =>
      if op=12\/op=13 then
        if aj s (sk s b)=44 then fW (bj n .sum (sk s b+1)) fun u c=>if aj s (sk s c)=41 then some (.ok (bz op t u) (sk s c+1)) else some (.err (sk s c))
        else some (.err (sk s b))
      else if aj s (sk s b)=41 then some (.ok (fS op t) (sk s b+1)) else some (.err (sk s b))
    else some (.err (sk s a))
variable {nf bf s}
theorem fH {x:Option PR}{f:Tm->Nat->Option PR}{t:Tm}{b:Nat}(h:fW x f=some (.ok t b)):∃ u a,x=some (.ok u a)/\f u a=some (.ok t b):=by
 match x,h with
 | some (.ok u a),h=>exact ⟨u,a,rfl,h⟩
def uh (lv:Bool):PKd:=if lv then .prod else .sum
section
variable {n a b:Nat}{t u:Tm}{lv:Bool}{op:Int}
theorem iu {k:PKd}{r:PR}(h:bj nf bf s n k a=some r):∃ m,n=m+1:=by
 cases n with
 | zero=>cases h
 | succ m=>exact ⟨m,rfl⟩
theorem iz (h:bj nf bf s (n+1) (uh lv) a=some (.ok t b)):∃ u c,bj nf bf s n (part lv) a=some (.ok u c)/\bj nf bf s n (.more lv u) c=some (.ok t b):=by
 cases lv<;>exact fH h
theorem jN (h:bj nf bf s (n+1) (.more lv u) a=some (.ok t b))(c:aj s (sk s a)=c1 lv):∃ v e,bj nf bf s n (part lv) (sk s a+1)=some (.ok v e)/\bj nf bf s n (.more lv (bz (kn lv) u v)) e=some (.ok t b):=by
 unfold bj at h;rw[if_pos c] at h;exact fH h
theorem jE (h:bj nf bf s (n+1) (.more lv u) a=some (.ok t b))(d:aj s (sk s a)≠c1 lv)(c:aj s (sk s a)=c2 lv):∃ v e,bj nf bf s n (part lv) (sk s a+1)=some (.ok v e)/\bj nf bf s n (.more lv (bz (ja lv) u v)) e=some (.ok t b):=by
 unfold bj at h;rw[if_neg d,if_pos c] at h;exact fH h
theorem jz (h:bj nf bf s (n+1) (.more lv u) a=some (.ok t b))(d:aj s (sk s a)≠c1 lv)(c:aj s (sk s a)≠c2 lv):t=u/\b=sk s a:=by
 unfold bj at h;rw[if_neg d,if_neg c] at h;injection h with h;injection h with h1 h2;exact ⟨h1.symm,h2.symm⟩
theorem n5 (h:bj nf bf s (n+1) .sign a=some (.ok t b))(c:aj s (sk s a)=45):∃ v,bj nf bf s n .sign (sk s a+1)=some (.ok v b)/\t=fS 7 v:=by
 unfold bj at h;rw[if_pos c] at h
 obtain ⟨v,e,h1,d⟩:=fH h
 injection d with d;injection d with d h3;subst h3;exact ⟨v,h1,d.symm⟩
theorem iB (h:bj nf bf s (n+1) .sign a=some (.ok t b))(c:aj s (sk s a)≠45):bj nf bf s n .pow (sk s a)=some (.ok t b):=by
 unfold bj at h;rw[if_neg c] at h;exact h
theorem n4 (h:bj nf bf s (n+1) .pow a=some (.ok t b)):∃ v e,bj nf bf s n .atom a=some (.ok v e)/\(aj s (sk s e)≠94->t=v/\b=sk s e)/\(aj s (sk s e)=94->jv s v (sk s e+1)=.ok t b):=by
 unfold bj at h
 obtain ⟨v,e,h1,d⟩:=fH h;refine ⟨v,e,h1,fun c=>?_,fun c=>?_⟩
 ·rw[if_neg c] at d;injection d with d;injection d with d h3;exact ⟨d.symm,h3.symm⟩
 ·rw[if_pos c] at d;injection d
theorem n0 {v:Tm}(h:jv s v a=.ok t b):∃ k,ef (s.extract (sk s (if aj s (sk s a)=45 then sk s a+1 else sk s a)) b)=some k/\b=rn bM s (sk s (if aj s (sk s a)=45 then sk s a+1 else sk s a))/\b-sk s (if aj s (sk s a)=45 then sk s a+1 else sk s a)<=3/\t=.mk 8 (if aj s (sk s a)=45 then -(k:Int) else k) 0 ⟨#[]⟩ [v]:=by
  have e:∀ x y:Nat,(if decide (aj s (sk s a)=45)=true then x else y)=if aj s (sk s a)=45 then x else y:=fun x y=>by by_cases c:aj s (sk s a)=45<;>simp[c]
  have d:∀ x y:Int,(if decide (aj s (sk s a)=45)=true then x else y)=if aj s (sk s a)=45 then x else y:=fun x y=>by by_cases c:aj s (sk s a)=45<;>simp[c]
  unfold jv at h
  dsimp only at h
  rw[e] at h
  generalize sk s (if aj s (sk s a)=45 then sk s a+1 else sk s a)=B at h ⊢
  by_cases c:3<rn bM s B-B
  . rw[if_pos c] at h;cases h
  . rw[if_neg c] at h
    revert h
    cases f:ef (s.extract B (rn bM s B)) with
    | none=>intro h;cases h
    | some k =>
      intro h
      injection h with h1 h2
      subst h2;rw[d] at h1
      exact ⟨k,f,rfl,by omega,h1.symm⟩
section
variable (h:bj nf bf s (n+1) .atom a=some (.ok t b))
include h
theorem nC (c:cH (aj s (sk s a))=true):∃ q,nf (s.extract (sk s a) (rn cH s (sk s a)))=some q/\t=dm q/\b=rn cH s (sk s a):=by
 unfold bj at h;rw[if_pos c] at h
 split at h
 ·rename_i q d;injection h with h;injection h with h1 h2;exact ⟨q,d,h1.symm,h2.symm⟩
 ·cases h
variable (c0:cH (aj s (sk s a))=false)
include c0
theorem qL (c:dL (aj s (sk s a))\/aj s (sk s a)=95)(d:bU (s.extract (sk s a) (rn bF s (sk s a)))=true):bj nf bf s n (.call (ag (s.extract (sk s a) (rn bF s (sk s a))))) (rn bF s (sk s a))=some (.ok t b):=by
 unfold bj at h;rw[if_neg (by rw[c0];decide),if_pos c,if_pos d] at h;exact h
theorem nQ (c:dL (aj s (sk s a))\/aj s (sk s a)=95)(d:bU (s.extract (sk s a) (rn bF s (sk s a)))=false):cD (s.extract (sk s a) (rn bF s (sk s a)))=true/\t=dE (s.extract (sk s a) (rn bF s (sk s a)))/\b=rn bF s (sk s a):=by
 unfold bj at h;rw[if_neg (by rw[c0];decide),if_pos c,if_neg (by rw[d];decide)] at h
 split at h
 ·rename_i e;injection h with h;injection h with h1 h2;exact ⟨e,h1.symm,h2.symm⟩
 ·cases h
variable (cL:¬(dL (aj s (sk s a))\/aj s (sk s a)=95))
include cL
theorem p4 (c:aj s (sk s a)=91):rn cg s (sk s a+1)≠s.size/\∃ q,bf (s.extract (sk s a+1) (rn cg s (sk s a+1)))=some q/\t=dm q/\b=rn cg s (sk s a+1)+1:=by
 unfold bj at h;rw[if_neg (by rw[c0];decide),if_neg cL,if_pos c] at h
 split at h
 ·cases h
 ·rename_i d
  split at h
  ·rename_i q e;injection h with h;injection h with h1 h2;exact ⟨d,q,e,h1.symm,h2.symm⟩
  ·cases h
variable (c9:aj s (sk s a)≠91)
include c9
theorem nk (c:aj s (sk s a)=40):∃ e,bj nf bf s n .sum (sk s a+1)=some (.ok t e)/\aj s (sk s e)=41/\b=sk s e+1:=by
 unfold bj at h;rw[if_neg (by rw[c0];decide),if_neg cL,if_neg c9,if_pos c] at h
 obtain ⟨v,e,h1,f⟩:=fH h
 split at f
 ·rename_i d;injection f with f;injection f with f h3;subst f;exact ⟨e,h1,d,h3.symm⟩
 ·cases f
theorem qk (c:aj s (sk s a)≠40):False:=by
 unfold bj at h;rw[if_neg (by rw[c0];decide),if_neg cL,if_neg c9,if_neg c] at h;cases h
end
theorem mb (h:bj nf bf s (n+1) (.call op) a=some (.ok t b)):aj s (sk s a)=40/\∃ u e,bj nf bf s n .sum (sk s a+1)=some (.ok u e)/\((op=12\/op=13)->aj s (sk s e)=44/\∃ v f,bj nf bf s n .sum (sk s e+1)=some (.ok v f)/\aj s (sk s f)=41/\t=bz op u v/\b=sk s f+1)/\(¬(op=12\/op=13)->aj s (sk s e)=41/\t=fS op u/\b=sk s e+1):=by
  unfold bj at h
  split at h
  . rename_i c
    obtain ⟨u,e,h1,i⟩:=fH h;refine ⟨c,u,e,h1,fun k=>?_,fun k=>?_⟩
    . rw[if_pos k] at i
      split at i
      . rename_i d
        obtain ⟨v,f,l,j⟩:=fH i
        split at j
        . rename_i g;injection j with j;injection j with j h5;exact ⟨d,v,f,l,g,j.symm,h5.symm⟩
        . cases j
      . cases i
    . rw[if_neg k] at i
      split at i
      . rename_i d;injection i with i;injection i with i l;exact ⟨d,i.symm,l.symm⟩
      . cases i
  . cases h
end
end
def PtH (h:Hp)(p:PTm)(t:Tm):Prop:=∃ d,TmH d h p t
theorem PtH.gw {h a:Hp}{p:PTm}{t:Tm}(x:PtH h p t)(u:Gw h a):PtH a p t:=by obtain ⟨d,x⟩:=x;exact ⟨d,x.gw u⟩
theorem PtH.one {h:Hp}{op n:Int}{p:PTm}{t:Tm}{b:Nat}(x:PtH h p t)(a:SlO 9 bv a6 h (some ⟨b,0,none⟩) [p]):PtH h ⟨op,n,0,⟨#[]⟩,some ⟨b,0,none⟩,1,1⟩ (.mk op n 0 ⟨#[]⟩ [t]):=by
 obtain ⟨d,x⟩:=x
 exact ⟨d+1,TmH.mk (ps:=[p]) (ks:=[t]) ⟨rfl,fun i hi=>by
  have:i=0:=by have:i<1:=hi;omega
  subst this;exact x⟩ (eb _) a⟩
theorem PtH.two {h:Hp}{op:Int}{p q:PTm}{t u:Tm}{b:Nat}(x:PtH h p t)(y:PtH h q u)(a:SlO 9 bv a6 h (some ⟨b,0,none⟩) [p,q]):PtH h ⟨op,0,0,⟨#[]⟩,some ⟨b,0,none⟩,2,2⟩ (bz op t u):=by
 obtain ⟨d,x⟩:=x;obtain ⟨e,y⟩:=y
 exact ⟨max d e+1,TmH.mk (ps:=[p,q]) (ks:=[t,u]) ⟨rfl,fun i hi=>by
  have:i=0\/i=1:=by have:i<2:=hi;omega
  rcases this with rfl|rfl
  ·exact x.mono (Nat.le_max_left _ _)
  ·exact y.mono (Nat.le_max_right _ _)⟩ (eb _) a⟩
theorem PtH.num {h:Hp}{q:Rat}:PtH h ⟨1,0,q,⟨#[]⟩,none,0,0⟩ (dm q):=⟨1,TmH.mk (ps:=[]) (ks:=[]) Tms.nil (eb _) SlO.nil⟩
theorem PtH.nam {h:Hp}{s:ByteArray}:PtH h ⟨2,0,0,s,none,0,0⟩ (dE s):=⟨1,TmH.mk (ps:=[]) (ks:=[]) Tms.nil (eb _) SlO.nil⟩
section ops
variable {P:Program}{Γ:ck}{o:Oper}
theorem fj {tx:TypeId}{x i e:Operand}{k k2:IntKind}{s:ByteArray}{n m:Nat}{j j2:Int}(f:o.op=.slice tx x (some i) (some e) none)(d:ev Γ x=.string s)(hi:ev Γ i=.int k j)(c:ev Γ e=.int k2 j2)(hu:P.underlying tx=some .string)(b:j=(n:Int))(a:j2=(m:Int))(h:n<=m)(l:m<=s.size)(w:World) :
  (execOp (ev Γ) o).run P w=.ok (.value (.string (s.extract n m))) w:=by
 unfold execOp;simp only[f]
 subst b;subst a;have h0:(m:Int)<=(s.size:Int):=by omega
 simp[Instr.sliceAt,d,hi,c,Instr.slice,run_underlying hu,Instr.sliceBounds,Instr.sliceBound,asIntOf,Result.andThen,h0,h,l]
end ops
theorem ej {x:Option PR}{f:Tm->Nat->Option PR}{b:Nat}(h:fW x f=some (.err b)):x=some (.err b)\/∃ u a,x=some (.ok u a)/\f u a=some (.err b):=by
 match x,h with
 | some (.ok u a),h=>exact .inr ⟨u,a,rfl,h⟩
 | some (.err c),h=>injection h with h;injection h with h;subst h;exact .inl rfl
theorem dU {x:Option PR}{f:Tm->Nat->Option PR}(h:∃ r,x=some r)(c:∀ t a,x=some (.ok t a)->∃ r,f t a=some r):∃ r,fW x f=some r:=by
 obtain ⟨r,rfl⟩:=h;cases r with
 | ok t a=>exact c t a rfl
 | err b=>exact ⟨_,rfl⟩
section
variable {nf bf:ByteArray->Option Rat}{s:ByteArray}{n a b:Nat}{u:Tm}{lv:Bool}{op:Int}
theorem oS (h:bj nf bf s (n+1) (uh lv) a=some (.err b)):bj nf bf s n (part lv) a=some (.err b)\/∃ t c,bj nf bf s n (part lv) a=some (.ok t c)/\bj nf bf s n (.more lv t) c=some (.err b):=by
 cases lv<;>exact ej h
theorem qG (h:bj nf bf s (n+1) (.more lv u) a=some (.err b))(c:aj s (sk s a)=c1 lv):bj nf bf s n (part lv) (sk s a+1)=some (.err b)\/∃ v e,bj nf bf s n (part lv) (sk s a+1)=some (.ok v e)/\bj nf bf s n (.more lv (bz (kn lv) u v)) e=some (.err b):=by
 unfold bj at h;rw[if_pos c] at h;exact ej h
theorem qq (h:bj nf bf s (n+1) (.more lv u) a=some (.err b))(d:aj s (sk s a)≠c1 lv)(c:aj s (sk s a)=c2 lv):bj nf bf s n (part lv) (sk s a+1)=some (.err b)\/∃ v e,bj nf bf s n (part lv) (sk s a+1)=some (.ok v e)/\bj nf bf s n (.more lv (bz (ja lv) u v)) e=some (.err b):=by
 unfold bj at h;rw[if_neg d,if_pos c] at h;exact ej h
theorem qz (h:bj nf bf s (n+1) (.more lv u) a=some (.err b))(d:aj s (sk s a)≠c1 lv)(c:aj s (sk s a)≠c2 lv):False:=by
 unfold bj at h;rw[if_neg d,if_neg c] at h;injection h with h;cases h
theorem wq (h:bj nf bf s (n+1) .sign a=some (.err b))(c:aj s (sk s a)=45):bj nf bf s n .sign (sk s a+1)=some (.err b):=by
 unfold bj at h;rw[if_pos c] at h
 rcases ej h with h|⟨v,e,_,h⟩
 ·exact h
 ·injection h with h;cases h
theorem q5 (h:bj nf bf s (n+1) .sign a=some (.err b))(c:aj s (sk s a)≠45):bj nf bf s n .pow (sk s a)=some (.err b):=by
 unfold bj at h;rw[if_neg c] at h;exact h
theorem wZ (h:bj nf bf s (n+1) .pow a=some (.err b)):bj nf bf s n .atom a=some (.err b)\/∃ v e,bj nf bf s n .atom a=some (.ok v e)/\aj s (sk s e)=94/\jv s v (sk s e+1)=.err b:=by
 unfold bj at h
 rcases ej h with h|⟨v,e,h1,h⟩
 ·exact .inl h
 ·by_cases c:aj s (sk s e)=94
  ·rw[if_pos c] at h;injection h with h;exact .inr ⟨v,e,h1,c,h⟩
  ·rw[if_neg c] at h;injection h with h;cases h
theorem xW {v:Tm}(h:jv s v a=.err b):b=sk s (if aj s (sk s a)=45 then sk s a+1 else sk s a)/\(3<rn bM s b-b\/ef (s.extract b (rn bM s b))=none):=by
 have d:∀ x y:Nat,(if decide (aj s (sk s a)=45)=true then x else y)=if aj s (sk s a)=45 then x else y:=fun x y=>by by_cases c:aj s (sk s a)=45<;>simp[c]
 unfold jv at h
 dsimp only at h
 rw[d] at h
 generalize sk s (if aj s (sk s a)=45 then sk s a+1 else sk s a)=B at h ⊢
 by_cases c:3<rn bM s B-B
 ·rw[if_pos c] at h;injection h with h;subst h;exact ⟨rfl,.inl c⟩
 ·rw[if_neg c] at h
  revert h
  cases e:ef (s.extract B (rn bM s B)) with
  | none=>intro h;injection h with h;subst h;exact ⟨rfl,.inr e⟩
  | some k=>intro h;cases h
section
variable (h:bj nf bf s (n+1) .atom a=some (.err b))
include h
theorem xX (c:cH (aj s (sk s a))=true):nf (s.extract (sk s a) (rn cH s (sk s a)))=none/\b=sk s a:=by
 unfold bj at h;rw[if_pos c] at h
 split at h
 ·injection h with h;cases h
 ·rename_i e;injection h with h;injection h with h;exact ⟨e,h.symm⟩
variable (c0:cH (aj s (sk s a))=false)
include c0
theorem AB (c:dL (aj s (sk s a))\/aj s (sk s a)=95)(d:bU (s.extract (sk s a) (rn bF s (sk s a)))=true):bj nf bf s n (.call (ag (s.extract (sk s a) (rn bF s (sk s a))))) (rn bF s (sk s a))=some (.err b):=by
 unfold bj at h;rw[if_neg (by rw[c0];decide),if_pos c,if_pos d] at h;exact h
theorem xk (c:dL (aj s (sk s a))\/aj s (sk s a)=95)(d:bU (s.extract (sk s a) (rn bF s (sk s a)))=false):cD (s.extract (sk s a) (rn bF s (sk s a)))=false/\b=sk s a:=by
 unfold bj at h;rw[if_neg (by rw[c0];decide),if_pos c,if_neg (by rw[d];decide)] at h
 split at h
 ·injection h with h;cases h
 ·rename_i e
  injection h with h;injection h with h
  refine ⟨?_,h.symm⟩;cases q:cD (s.extract (sk s a) (rn bF s (sk s a)))
  ·rfl
  ·exact absurd q e
variable (cL:¬(dL (aj s (sk s a))\/aj s (sk s a)=95))
include cL
theorem By (c:aj s (sk s a)=91):b=sk s a/\(rn cg s (sk s a+1)=s.size\/bf (s.extract (sk s a+1) (rn cg s (sk s a+1)))=none):=by
 unfold bj at h;rw[if_neg (by rw[c0];decide),if_neg cL,if_pos c] at h
 split at h
 ·rename_i d;injection h with h;injection h with h;exact ⟨h.symm,.inl d⟩
 ·split at h
  ·injection h with h;cases h
  ·rename_i e;injection h with h;injection h with h;exact ⟨h.symm,.inr e⟩
variable (c9:aj s (sk s a)≠91)
include c9
theorem wg (c:aj s (sk s a)=40):bj nf bf s n .sum (sk s a+1)=some (.err b)\/∃ t e,bj nf bf s n .sum (sk s a+1)=some (.ok t e)/\aj s (sk s e)≠41/\b=sk s e:=by
 unfold bj at h;rw[if_neg (by rw[c0];decide),if_neg cL,if_neg c9,if_pos c] at h
 rcases ej h with h|⟨v,e,h1,h⟩
 ·exact .inl h
 ·refine .inr ⟨v,e,h1,?_⟩
  by_cases d:aj s (sk s e)=41
  ·rw[if_pos d] at h;injection h with h;cases h
  ·rw[if_neg d] at h;injection h with h;injection h with h;exact ⟨d,h.symm⟩
theorem BK (c:aj s (sk s a)≠40):b=sk s a:=by
 unfold bj at h;rw[if_neg (by rw[c0];decide),if_neg cL,if_neg c9,if_neg c] at h;injection h with h;injection h with h;exact h.symm
end
theorem m0 (h:bj nf bf s (n+1) (.call op) a=some (.err b)):(aj s (sk s a)≠40/\b=sk s a)\/(aj s (sk s a)=40/\(bj nf bf s n .sum (sk s a+1)=some (.err b)\/∃ u e,bj nf bf s n .sum (sk s a+1)=some (.ok u e) /\
    ((op=12\/op=13)->(aj s (sk s e)≠44/\b=sk s e)\/(aj s (sk s e)=44/\(bj nf bf s n .sum (sk s e+1)=some (.err b)\/∃ v f,bj nf bf s n .sum (sk s e+1)=some (.ok v f)/\aj s (sk s f)≠41/\b=sk s f)))/\(¬(op=12\/op=13)->aj s (sk s e)≠41/\b=sk s e))):=by
  unfold bj at h
  split at h
  . rename_i c
    refine .inr ⟨c,?_⟩
    rcases ej h with h|⟨u,e,h1,h⟩
    . exact .inl h
    . refine .inr ⟨u,e,h1,fun i=>?_,fun i=>?_⟩
      . rw[if_pos i] at h
        split at h
        . rename_i d
          refine .inr ⟨d,?_⟩
          rcases ej h with h|⟨v,f,h3,h⟩
          . exact .inl h
          . refine .inr ⟨v,f,h3,?_⟩
            split at h
            . injection h with h;cases h
            . rename_i g;injection h with h;injection h with h;exact ⟨g,h.symm⟩
        . rename_i d;injection h with h;injection h with h;exact .inl ⟨d,h.symm⟩
      . rw[if_neg i] at h
        split at h
        . injection h with h;cases h
        . rename_i d;injection h with h;injection h with h;exact ⟨d,h.symm⟩
  . rename_i c;injection h with h;injection h with h;exact .inl ⟨c,h.symm⟩
theorem se {v t:Tm}(ha:a<=s.size)(h:jv s v a=.ok t b):a<=b/\b<=s.size:=by
 obtain ⟨k,_,j,_⟩:=n0 h;have o:=eE s a;have d:=bD ha;have f:=cp (s:=s) (a:=sk s a)
 have:a<=sk s (if aj s (sk s a)=45 then sk s a+1 else sk s a)/\sk s (if aj s (sk s a)=45 then sk s a+1 else sk s a)<=s.size:=by
  by_cases c:aj s (sk s a)=45
  ·rw[if_pos c]
   have:=f oM;have e:=eE s (sk s a+1);exact ⟨by omega,bD oM⟩
  ·rw[if_neg c]
   have e:=eE s (sk s a);exact ⟨by omega,bD d⟩
 have l:=fV bM s (sk s (if aj s (sk s a)=45 then sk s a+1 else sk s a));have i:=dC (p:=bM) this.2
 omega
theorem om:∀ (n:Nat) (k:PKd) (a:Nat) (t:Tm) (b:Nat),a<=s.size->bj nf bf s n k a=some (.ok t b)->a<=b/\b<=s.size
  | 0,_,_,_,_,_,h=>by cases h
  | n + 1, k, a,t,b,ha,h=>by
    have h1:=eE s a;have B:=bD ha;have x:=cp (s:=s) (a:=sk s a);have j:=om n;cases k with
    | sum =>
      obtain ⟨u,c,i,o⟩:=iz (lv:=false) h;have l:=j _ _ _ _ ha i;have z:=j _ _ _ _ l.2 o
      omega
    | prod =>
      obtain ⟨u,c,i,o⟩:=iz (lv:=true) h;have l:=j _ _ _ _ ha i;have z:=j _ _ _ _ l.2 o
      omega
    | more lv u =>
      have J:c1 lv≠0:=by cases lv<;>decide
      have k2:c2 lv≠0:=by cases lv<;>decide
      by_cases x1:aj s (sk s a)=c1 lv
      . obtain ⟨v,e,i,o⟩:=jN h x1
        have:=x oM;have l:=j _ _ _ _ oM i;have z:=j _ _ _ _ l.2 o
        omega
      . by_cases x2:aj s (sk s a)=c2 lv
        . obtain ⟨v,e,i,o⟩:=jE h x1 x2
          have:=x oM;have l:=j _ _ _ _ oM i;have z:=j _ _ _ _ l.2 o
          omega
        . obtain ⟨_,e⟩:=jz h x1 x2
          omega
    | sign =>
      by_cases x1:aj s (sk s a)=45
      . obtain ⟨v,i,_⟩:=n5 h x1
        have:=x oM;have l:=j _ _ _ _ oM i
        omega
      . have l:=j _ _ _ _ B (iB h x1)
        omega
    | pow =>
      obtain ⟨v,e,i,o,y⟩:=n4 h;have l:=j _ _ _ _ ha i;have I:=eE s e;have M:=bD l.2
      by_cases x1:aj s (sk s e)=94
      . have:=cp (s:=s) (a:=sk s e) oM
        have:=se oM (y x1)
        omega
      . have:=(o x1).2
        omega
    | atom =>
      cases c0:cH (aj s (sk s a)) with
      | true =>
        obtain ⟨q,_,_,e⟩:=nC h c0;have:=fV cH s (sk s a);have:=dC (p:=cH) B
        omega
      | false =>
        by_cases cL:dL (aj s (sk s a))\/aj s (sk s a)=95
        . have O:=fV bF s (sk s a)
          have F:=dC (p:=bF) B;cases d:bU (s.extract (sk s a) (rn bF s (sk s a))) with
          | true=>have l:=j _ _ _ _ F (qL h c0 cL d);omega
          | false=>obtain ⟨_,_,e⟩:=nQ h c0 cL d;omega
        . by_cases c9:aj s (sk s a)=91
          . obtain ⟨L,q,_,_,e⟩:=p4 h c0 cL c9
            have:=x oM;have:=fV cg s (sk s a+1);have:=dC (p:=cg) (s:=s) (a:=sk s a+1) oM
            omega
          . by_cases C:aj s (sk s a)=40
            . obtain ⟨e,i,o,y⟩:=nk h c0 cL c9 C
              have:=x oM;have l:=j _ _ _ _ oM i;have:=eE s e;have:=cp (s:=s) (a:=sk s e) oM
              omega
            . exact (qk h c0 cL c9 C).elim
    | call op =>
      obtain ⟨C,u,e,i,o,y⟩:=mb h;have:=x oM;have l:=j _ _ _ _ oM i;have:=eE s e
      by_cases ho:op=12\/op=13
      . obtain ⟨d,v,f,H,K,_,D⟩:=o ho
        have:=cp (s:=s) (a:=sk s e) oM;have z:=j _ _ _ _ oM H;have:=eE s f;have:=cp (s:=s) (a:=sk s f) oM
        omega
      . obtain ⟨d,_,D⟩:=y ho
        have:=cp (s:=s) (a:=sk s e) oM
        omega
def CN:PKd->Nat
  | .sum=>5
  | .prod=>4
  | .sign=>3
  | .pow=>2
  | .atom=>1
  | .call _=>0
  | .more _ _=>0
theorem i6 {p:Nat->Bool}{s:ByteArray}{a:Nat}(h:a<s.size)(b:p (aj s a)=true):a+1<=rn p s a:=by
 unfold rn
 rw[show s.size-a=(s.size-a-1)+1 by omega]
 unfold pn
 rw[if_pos ⟨h,b⟩];exact qJ p s _ (a+1)
theorem td:∀ (m:Nat) (k:PKd) (a:Nat),a<=s.size->6*(s.size-a)+CN k<m->∃ r,bj nf bf s m k a=some r
  | 0,_,_,_,h=>absurd h (Ke _)
  | m + 1, k, a,ha,d=>by
    have h1:=eE s a;have x:=bD ha;have j:=cp (s:=s) (a:=sk s a);have b:=td m;have i:=om (nf:=nf) (bf:=bf) (s:=s) m;cases k with
    | sum =>
      have d:6*(s.size-a)+5<m+1:=d;exact dU (b .prod a ha (by show 6*(s.size-a)+4<m;omega)) fun t c g=>b (.more false t) c (i _ _ _ _ ha g).2 (by have:=i _ _ _ _ ha g;show 6*(s.size-c)+0<m;omega)
    | prod =>
      have d:6*(s.size-a)+4<m+1:=d;exact dU (b .sign a ha (by show 6*(s.size-a)+3<m;omega)) fun t c g=>b (.more true t) c (i _ _ _ _ ha g).2 (by have:=i _ _ _ _ ha g;show 6*(s.size-c)+0<m;omega)
    | more lv u =>
      have d:6*(s.size-a)+0<m+1:=d;have B:c1 lv≠0:=by cases lv<;>decide
      have k2:c2 lv≠0:=by cases lv<;>decide
      have C:CN (part lv)<=4:=by cases lv<;>decide
      unfold bj
      by_cases x1:aj s (sk s a)=c1 lv
      . rw[if_pos x1]
        have:=j oM;exact dU (b (part lv) _ oM oM) fun t c g=>b (.more lv _) c (i _ _ _ _ oM g).2 (by have:=i _ _ _ _ (show sk s a+1<=s.size by omega) g;show 6*(s.size-c)+0<m;omega)
      . rw[if_neg x1]
        by_cases x2:aj s (sk s a)=c2 lv
        . rw[if_pos x2]
          have:=j oM;exact dU (b (part lv) _ oM oM) fun t c g=>b (.more lv _) c (i _ _ _ _ oM g).2 (by have:=i _ _ _ _ (show sk s a+1<=s.size by omega) g;show 6*(s.size-c)+0<m;omega)
        . rw[if_neg x2];exact ⟨_,rfl⟩
    | sign =>
      have d:6*(s.size-a)+3<m+1:=d
      unfold bj
      by_cases x1:aj s (sk s a)=45
      . rw[if_pos x1]
        have:=j oM;exact dU (b .sign _ oM (by show 6*(s.size-(sk s a+1))+3<m;omega)) fun t c g=>⟨_,rfl⟩
      . rw[if_neg x1];exact b .pow _ x (by show 6*(s.size-sk s a)+2<m;omega)
    | pow =>
      have d:6*(s.size-a)+2<m+1:=d
      unfold bj
      refine dU (b .atom a ha (by show 6*(s.size-a)+1<m;omega)) fun t c g=>?_
      split
      . exact ⟨_,rfl⟩
      . exact ⟨_,rfl⟩
    | atom =>
      have d:6*(s.size-a)+1<m+1:=d
      unfold bj
      split
      . split<;>exact ⟨_,rfl⟩
      . split
        . rename_i cL
          have o:sk s a<s.size:=j (by
            rcases cL with cL|cL
            . unfold dL at cL;omega
            . omega)
          have hr:sk s a+1<=rn bF s (sk s a):=i6 o (decide_eq_true (by
            unfold kh
            rcases cL with cL|cL
            . exact .inl cL
            . exact .inr (.inr cL)))
          have l:=dC (p:=bF) x
          split
          . exact b (.call _) _ l (by show 6*(s.size-rn bF s (sk s a))+0<m;omega)
          . split<;>exact ⟨_,rfl⟩
        . split
          . split
            . exact ⟨_,rfl⟩
            . split<;>exact ⟨_,rfl⟩
          . split
            . rename_i z
              have:=j oM;refine dU (b .sum _ oM (by show 6*(s.size-(sk s a+1))+5<m;omega)) fun t c g=>?_
              split<;>exact ⟨_,rfl⟩
            . exact ⟨_,rfl⟩
    | call op =>
      have d:6*(s.size-a)+0<m+1:=d
      unfold bj
      split
      . rename_i z
        have:=j oM;refine dU (b .sum _ oM (by show 6*(s.size-(sk s a+1))+5<m;omega)) fun t e g=>?_
        have y:=i _ _ _ _ (show sk s a+1<=s.size by omega) g;have:=eE s e
        split
        . split
          . have:=cp (s:=s) (a:=sk s e) oM
            refine dU (b .sum _ oM (by show 6*(s.size-(sk s e+1))+5<m;omega)) fun v f D=>?_
            split<;>exact ⟨_,rfl⟩
          . exact ⟨_,rfl⟩
        . split<;>exact ⟨_,rfl⟩
      . exact ⟨_,rfl⟩
end
structure Whole (lo:Nat) (h:Hp) (b:Nat) (ty:TypeId) (vs:List Value):Prop where
  lo:lo<=b
  ty0:(ty == 0)=false
  at_:h[b]?=some (.cells vs.toArray ty (0,0))
structure Poked (h h':Hp) (b:Nat):Prop where
  oth:∀ c,c≠b->c<h.size->h'[c]?=h[c]?
section laws
variable {M:Ms}{P:Program}{n:Nat}{N R:Po}{X:Nat->Po}{ops:Array Oper}{k k0:Nat}{hr:Hp}{AL:List Al}{L:Array Bool}{Γ:ck}{w:World}{h:Hp}{w0:World}{h0:Hp}{B:List Bx}{Rs:List Rw}{F:List (Hp->Prop)}
theorem tC (i t:Nat){f:FuncId}{args:Array Value}(c:Calls P f args w fun e w'=>∃ v,e=.returned v/\Tl M w w'/\AG M P n N R X ops k0 (L.setIfInBounds i true) ((t,v)::Γ) w')(h:(gY ops k0 L i && ba Γ (av ops i) && ((av ops i).dst == some t) && decide (t<n))=true:=by kernel_rfl)(k:bu ops Γ (av ops i)=some true:=by kernel_rfl)
  (hr:(execOp (ev Γ) (av ops i)).run P w=.ok (.enter f args) w:=by kernel_rfl):AG M P n N R X ops k0 L Γ w:=by
 simp only[hN,decide_eq_true_eq,beq_iff_eq] at h
 obtain ⟨⟨⟨h1,o⟩,p⟩,l⟩:=h;obtain ⟨j,u⟩:=js h1;intro a d;refine A.one h1 j (R':=fun v w'=>Tl M w w'/\AG M P n N R X ops k0 (L.setIfInBounds i true) ((t,v)::Γ) w') ⟨d.want k,.inr (.inr ⟨f,args,?_,c⟩)⟩ (fun v w' b=>b.1) (fun v w' b=>?_)
 ·rw[d.exec (Region.noSelect_spec u i _ · · j) o];exact hr
 ·rw[p];exact b.2 _ (d.put l v)
theorem fr (t:Nat)(ty:TypeId)(vs:List Value)(s:SS w0 h0 w h B Rs F)(H:∀ b w' a,Up w h w' a->h.size<=b->SS w0 h0 w' a (⟨b,ty,vs⟩::B) Rs F->LG P n N R X ops (k+1) ((t,.pointer (some ⟨b,0,none⟩))::Γ) w')(c:cL ops Γ k t n=true:=by kernel_rfl)
  (hr:(execOp (ev Γ) (av ops k)).run P w=.ok (.value (.pointer (some ⟨w.heap.size,0,none⟩))) (w.alloc (.cells vs.toArray ty (0,0))):=by kernel_rfl):LG P n N R X ops k Γ w :=
 LG.var t ty vs s.st (bS c).1 (bS c).2 hr (fun b w' a d u e=>H b w' a u d (s.new u d e))
theorem UpM.put2 {M2:List Nat}{wa w':World}{ha:Hp}{b:Nat}(u:UpM M2 wa ha w h)(p:Put b w w')(i:ha.size<=b)(a:G wa ha)(g:G w' h):UpM M2 wa ha w' h :=
 ⟨⟨p.os.trans u.mo.os,p.tape.trans u.mo.tape,p.output.trans u.mo.output,by rw[p.size];exact u.mo.size,fun c d f=>(p.blk c (fun e=>by subst e;have:=a.size;omega)).trans (u.mo.blk c d f)⟩,u.gr,g⟩
end laws
section
variable {M:Ms}{P:Program}{n:Nat}{N R:Po}{X:Nat->Po}{ops:Array Oper}{k0:Nat}{hr:Hp}{AL:List Al}{L:Array Bool}{Γ:ck}{w:World}{h:Hp}{w0:World}{h0:Hp}{B:List Bx}{Rs:List Rw}{F:List (Hp->Prop)}{M2:List Nat}{wa:World}{ha:Hp}
theorem SS.pubM (s:SS w0 h0 w h B Rs F)(u:UpM M2 wa ha w h)(j:Nat)(k:ha.size<=(aD B j).b)(o:decide (j<B.length)=true:=by kernel_rfl):∃ c,SS w0 h0 w c (B.eraseIdx j) Rs F/\UpM M2 wa ha w c/\Seg c (aD B j).b 0 (aD B j).vs:=by
 have a:=oT o;obtain ⟨c,i,gw,p,z,oth⟩:=s.st.pubX j a;have l:=bC a;refine ⟨c,⟨s.g0,i,fun r hr=>((s.ro r hr).out (ga.2 ⟨_,l,rfl⟩) oth).sub _ (fun b d=>?_),s.ap,s.mo,s.f.gw s.mo gw⟩,⟨u.mo,⟨ed u.gr.size gw.size,fun b d=>?_⟩,i.up.g⟩,p⟩
 ·obtain ⟨x,y,e⟩:=ga.1 d
  exact ga.2 ⟨x,List.mem_of_mem_eraseIdx y,e⟩
 ·exact (oth b (fun e=>by subst e;omega)).trans (u.gr.blk b d)
theorem io (i t:Nat){f:FuncId}{args:Array Value}{Φ:World->Hp->Value->Hp->Prop}(s:SS w0 h0 w h B Rs F)(m:UpM M2 wa ha w h)(c:∀ w1 h1,SS w0 h0 w1 h1 B Rs F->Calls P f args w1 (Ret w1 h1 (Φ w1 h1)))(H:∀ w1 h1 v w' a,UpM M2 wa ha w' a->SS w0 h0 w' a B Rs F->Φ w1 h1 v a->EG M P n N R X ops k0 hr AL (L.setIfInBounds i true) ((t,v)::Γ) w' a)(j:Av n ops k0 AL L Γ i t=true:=by kernel_rfl)(hv:∀ w,(execOp (ev Γ) (av ops i)).run P w=.ok (.enter f args) w:=by intro _;kernel_rfl):EG M P n N R X ops k0 hr AL L Γ w h :=
 Rg.call i t f args (fw j).1 (fw j).2 hv (fun w1 h1 u=>(c w1 h1 (s.step u)).mono fun e w' ⟨v,a,k,d,b⟩=>⟨v,a,k,d.m M.l,H w1 h1 v w' a (m.trans ((u.m _).trans (d.m _))) ((s.step u).step d) b⟩)
theorem mg {F1:List (Hp->Prop)}{wr:World}{x:Al}(a:List Bx)(l:SS w0 h0 wr hr B Rs F1)(s:SS w0 h0 w h (a++B) Rs F)(m:UpM M2 wa ha w h)(j:ha.size<=hr.size)(t:TypeId)(vs:List Value)(H:∀ w' c b,UpM M2 wa ha w' c->ha.size<=b->SS w0 h0 w' c (⟨b,t,vs⟩::(a++B)) Rs F->AG M P n N R X ops k0 (L.setIfInBounds x.i true) ((x.t,.pointer (some ⟨b,0,none⟩))::Γ) w')(d:(fq ops [x] L && decide (x.t<n))=true:=by kernel_rfl)(f:x.o=.cells vs.toArray t (0,0):=by kernel_rfl)(e:a.all (fun y=>y.t != t)=true:=by kernel_rfl):EG M P n N R X ops k0 hr [x] L Γ w h :=
 Rg.fin1 d (fun w' c b u k=>H w' c b (m.trans (u.m _)) (ed j k.2.2) (SS.blkp a l (s.step u) k t vs f e))
theorem km (i j o:Nat)(cs:List Value)(s:SS w0 h0 w h B Rs F)(H:∀ w',Put (aD B j).b w w'->SS w0 h0 w' h (fU B j o cs) Rs F->AG M P n N R X ops k0 (L.setIfInBounds i true) Γ w')(c:FI ops k0 L Γ i=true:=by kernel_rfl)
  (a:(decide (j<B.length) && decide (o+cs.length<=(aD B j).vs.length))=true:=by kernel_rfl)(f:dw P (execOp (ev Γ) (av ops i))=some (.skip,ml (aD B j).b o cs):=by kernel_rfl)(hz:∀ K bs,M.z=some (K,bs)->K<=(aD B j).b\/(aD B j).b∈bs:=by intro _ _ e;cases e):AG M P n N R X ops k0 L Γ w :=
 T.put i j o cs s.st s.g0 (j4 c).1 (j4 c).2 a f (fun w' p d=>H w' p (s.put0 (oT (hN _ _▸a).1) p d (kY (oT (hN _ _▸a).1)))) hz
end
structure Dif (M:List Nat) (w w0:World):Prop where
  mo:Mo M w w0
  sz:w0.heap.size=w.heap.size
section laws
variable {M:Ms}{P:Program}{ops:Array Oper}{Q:Exit->Act->World->Prop}{k0:Nat}
theorem E.event2 {h0:Hp}{AL:List Al}{L:Array Bool}{a:Act}{w:World}{h:Hp}{i:Nat}{o:Oper}{I:Nat}{p:Oper}
    (hi:ops[i]?=some o)(X:ops[I]?=some p)(hk:i<k0)(hk2:I<k0)(B:Region.noSelect ops=true)(hun:L.getD i true=false)
    (W:∀ j oj,ops[j]?=some oj->L.getD j true=false->j≠i->j≠I->(∀ x∈AL,x.i≠j)->∃ e∈oj.after,Region.binds .any e=true/\L.getD e.on false=false/\∀ x∈AL,x.i≠e.on)
    (Y:∀ e∈o.after,Region.binds .any e=true->L.getD e.on false=true)
    (hal:∀ x∈AL,x.i≠i/\x.t ∉ o.looksAt ops/\o.dst≠some x.t)(K:∀ x∈AL,x.i≠I/\x.t ∉ p.looksAt ops/\p.dst≠some x.t)(oks:∀ x∈AL,AlOk P ops k0 x)(hM:∀ b∈M.l,b<h0.size)(g:G w h)(hsz:h0.size<=h.size)
    (H:∀ w' k,Up w h w' k->OpR P ops o a w' (fun v f=>∃ d,UpM M.l w' k f d/\E M P ops Q k0 h0 AL (L.setIfInBounds i true) (a.put o.dst v) f d))
    (H2:∀ w' k,Up w h w' k->OpR P ops p a w' (fun v f=>∃ d,UpM M.l w' k f d/\E M P ops Q k0 h0 AL (L.setIfInBounds I true) (a.put p.dst v) f d)):E M P ops Q k0 h0 AL L a w h:=by
  have key:∀ (m:Nat) (T:List Al),T.length=m->∀ w' k,Up w h w' k->∀ (S:List SA),(S.map (·.1)++T).Perm AL->(∀ s∈S,Blk h0 w' k s)->(S.map (·.2)).Nodup ->
      A M P ops Q k0 (dO L S) (addA a S) w':=by
    intro m
    induction m using Nat.strongRecOn with
    | _ m ih =>
      intro T hT w' k u S y U Z;have z:∀ s∈S,s.1.i≠i/\s.1.t ∉ o.looksAt ops/\o.dst≠some s.1.t:=fun s c=>hal _ (eg y c)
      have C:∀ s∈S,s.1.i≠I/\s.1.t ∉ p.looksAt ops/\p.dst≠some s.1.t:=fun s c=>K _ (eg y c)
      refine A.intro (fun h0'=>?_) (fun j hj=>?_)
      . exfalso
        have:i∈Region.ready .any ops (dO L S):=mem_ready.2 ⟨by rw[gg true (fun s c=>(z s c).1)];exact hun,o,hi,fun e V D=>jS (Y e V D)⟩;rw[h0'] at this
        cases this
      . by_cases hji:j=i
        . subst hji
          refine OpR.wpOp hi ((H w' k u).addA (Region.noSelect_spec B j o · · hi) S (fun s c=>(z s c).2.1)) ?_;rintro v f ⟨d,F,H3⟩;refine ⟨Rl.mo hk F.mo,?_⟩;rw[<-gV L S j (fun s c=>(z s c).1),<-gL a S o.dst v (fun s c=>(z s c).2.2)];exact H3 f d (Up.refl F.g) S T y (fun s c=>(U s c).up F hM) Z
        . by_cases hj2:j=I
          . subst hj2
            refine OpR.wpOp X ((H2 w' k u).addA (Region.noSelect_spec B j p · · X) S (fun s c=>(C s c).2.1)) ?_;rintro v f ⟨d,F,H3⟩;refine ⟨Rl.mo hk2 F.mo,?_⟩;rw[<-gV L S j (fun s c=>(C s c).1),<-gL a S p.dst v (fun s c=>(C s c).2.2)];exact H3 f d (Up.refl F.g) S T y (fun s c=>(U s c).up F hM) Z
          . obtain ⟨J,oj,hoj,O⟩:=mem_ready.1 hj
            have hx:∃ x∈AL,x.i=j:=by
              refine Classical.byContradiction fun hno=>?_
              obtain ⟨e,V,D,hf,hne⟩:=W j oj hoj (f0 J) hji hj2 (fun x hx V=>hno ⟨x,hx,V⟩);have:=O e V D;rw[gg false (fun s c=>hne _ (eg y c)),hf] at this
              cases this
            obtain ⟨x,hxA,rfl⟩:=hx;have hxT:=g7 y hxA hj;exact nN oks hM u.g (ed hsz u.gr.size) y U Z hxT (fun w1 h1 S1 T1 u1 hp1 hb1 hn1 hlt=>ih T1.length oM T1 rfl w1 h1 (u.trans u1) S1 hp1 hb1 hn1)
  exact fun w' k u S T y U Z=>key _ T rfl w' k u S y U Z
end laws
section steps
variable {M:Ms}{P:Program}{n:Nat}{N R:Po}{X:Nat->Po}{ops:Array Oper}{k0:Nat}{hr:Hp}{AL:List Al}{L:Array Bool}{Γ:ck}{w:World}{h:Hp}
def qj (n:Nat)(ops:Array Oper)(k0:Nat)(AL:List Al)(L:Array Bool)(Γ:ck)(i t i2 t2:Nat):Bool :=
  decide (i<ops.size) && decide (i2<ops.size) && decide (i<k0) && decide (i2<k0) && Region.noSelect ops && (L.getD i true == false) &&
  ((List.range ops.size).all fun j=>L.getD j true || j == i || j == i2 || AL.any (·.i == j) || (av ops j).after.any fun e=>Region.binds .any e && (L.getD e.on false == false) && AL.all (·.i != e.on)) &&
  ((av ops i).after.all fun e=>!Region.binds .any e || L.getD e.on false) &&
  oW ops AL i (av ops i) && oW ops AL i2 (av ops i2) && ((av ops i).dst == some t) && decide (t<n) && ((av ops i2).dst == some t2) && decide (t2<n) && ba Γ (av ops i) && ba Γ (av ops i2) && (bu ops Γ (av ops i) == some true) && (bu ops Γ (av ops i2) == some true)
theorem Rg.two (i t J t2:Nat)(K:qj n ops k0 AL L Γ i t J t2=true)
  (H:∀ w' o,Up w h w' o->∃ v b c,(execOp (ev Γ) (av ops i)).run P w'=.ok (.value v) b/\UpM M.l w' o b c/\EG M P n N R X ops k0 hr AL (L.setIfInBounds i true) ((t,v)::Γ) b c)
  (H2:∀ w' o,Up w h w' o->∃ v b c,(execOp (ev Γ) (av ops J)).run P w'=.ok (.value v) b/\UpM M.l w' o b c/\EG M P n N R X ops k0 hr AL (L.setIfInBounds J true) ((t2,v)::Γ) b c) :
  EG M P n N R X ops k0 hr AL L Γ w h:=by
 unfold qj at K
 simp only[hN,decide_eq_true_eq,beq_iff_eq] at K
 obtain ⟨⟨⟨⟨⟨⟨⟨⟨⟨⟨⟨⟨⟨⟨⟨⟨⟨h1,h2⟩,h3⟩,h4⟩,h5⟩,h6⟩,h7⟩,h8⟩,h9⟩,Y⟩,V⟩,W⟩,h13⟩,Z⟩,U⟩,O⟩,h17⟩,S⟩:=K;have p:=bN (ops:=ops) h1;have d:=bN (ops:=ops) h2;intro z hM g C a D;have e1:=D.exec (Region.noSelect_spec h5 i _ · · p) U;have e2:=D.exec (Region.noSelect_spec h5 J _ · · d) O;refine E.event2 p d h3 h4 h5 h6 ?_ ?_ (gn h9) (gn Y) z hM g C ?_ ?_
 ·intro j oj hj hun hji F hal
  have I:=(g3.1 hj).1;have e:oj=av ops j:=by have:=bN (ops:=ops) I;rw[hj] at this;injection this
  have:=(i3.1 h7) j (List.mem_range.2 I)
  simp only[Bool.or_eq_true,hun,Bool.false_eq_true,false_or,beq_iff_eq,hji,F,List.any_eq_true,Array.any_eq_true,hN] at this
  rcases this with ⟨x,hx,hxe⟩|⟨x,hx,⟨Q,hL⟩,hno⟩
  ·exact absurd hxe (hal x hx)
  ·rw[e]
   refine ⟨_,Array.getElem_mem hx,Q,hL,fun y hy=>?_⟩;have:=(i3.1 hno) y hy
   simpa using this
 ·intro e he Q
  have:=(Array.all_eq_true_iff_forall_mem.1 h8) e he
  simpa [Q] using this
 ·intro w' o u
  obtain ⟨v,b,c,f,B,k⟩:=H w' o u;refine ⟨D.want h17,?_⟩;rw[e1];refine .inl ⟨v,b,f,c,B,?_⟩;rw[V];exact k z hM B.g (ed C (ed u.gr.size B.gr.size)) _ (D.put W v)
 ·intro w' o u
  obtain ⟨v,b,c,f,B,k⟩:=H2 w' o u;refine ⟨D.want S,?_⟩;rw[e2];refine .inl ⟨v,b,f,c,B,?_⟩;rw[h13];exact k z hM B.g (ed C (ed u.gr.size B.gr.size)) _ (D.put Z v)
end steps
section
variable {M:Ms}{P:Program}{n:Nat}{N R:Po}{X:Nat->Po}{ops:Array Oper}{k0:Nat}{hr:Hp}{AL:List Al}{L:Array Bool}{Γ:ck}{w:World}{h:Hp}{w0:World}{h0:Hp}{B:List Bx}{Rs:List Rw}{F:List (Hp->Prop)}{M2:List Nat}{wa:World}{ha:Hp}
theorem i0 (i t:Nat){f:FuncId}{args:Array Value}{rb:Nat}{Φ:World->Hp->Value->World->Hp->Prop}(s:SS w0 h0 w h B Rs F)(m:UpM M2 wa ha w h)(j:rb∈M.l)(p:rb∈M2)(c:∀ w1 h1,SS w0 h0 w1 h1 B Rs F->Calls P f args w1 (bV rb w1 h1 (Φ w1 h1)))(H:∀ w1 h1 v w' a,SS w0 h0 w1 h1 B Rs F->UpM [rb] w1 h1 w' a->UpM M2 wa ha w' a->Φ w1 h1 v w' a->EG M P n N R X ops k0 hr AL (L.setIfInBounds i true) ((t,v)::Γ) w' a)(x:Av n ops k0 AL L Γ i t=true:=by kernel_rfl)(hv:∀ w,(execOp (ev Γ) (av ops i)).run P w=.ok (.enter f args) w:=by intro _;kernel_rfl):EG M P n N R X ops k0 hr AL L Γ w h :=
 Rg.call i t f args (fw x).1 (fw x).2 hv (fun w1 h1 u=>(c w1 h1 (s.step u)).mono fun e w' ⟨v,a,y,o,k⟩=>⟨v,a,y,o.weak (fun b d=>by rw[o0] at d;rw[d];exact j),H w1 h1 v w' a (s.step u) o (m.trans ((u.m _).trans (o.weak (fun b d=>by rw[o0] at d;rw[d];exact p)))) k⟩)
theorem Bt (i t:Nat)(ps:List (Nat × Nat × Nat))(v:Value)(s:SS w0 h0 w h B Rs F)(m:UpM M2 wa ha w h)(H:∀ w' a,SS w0 h0 w' a B Rs F->UpM M2 wa ha w' a->EG M P n N R X ops k0 hr AL (L.setIfInBounds i true) ((t,v)::Γ) w' a)(c:(kI n ops k0 AL L i t && ba Γ (av ops i))=true:=by kernel_rfl)(d:bu ops Γ (av ops i)=some true:=by kernel_rfl)(b:bR B ps=true:=by kernel_rfl)(e:bP P (execOp (ev Γ) (av ops i)) (cf B ps)=some (.value v,bO B ps):=by kernel_rfl):EG M P n N R X ops k0 hr AL L Γ w h :=
 Rg.event i t c d (fun w' a u=>.inl ⟨v,w',a,bH _ _ _ _ e (bQ (s.step u).st.own ps b),UpM.refl u.g,H w' a (s.step u) (m.trans (u.m _))⟩)
theorem F0 (i t:Nat)(ps:List (Nat × Nat × Nat))(v:Value)(c e:Nat)(b:List (Nat × Nat × Nat))(d:Value)(s:SS w0 h0 w h B Rs F)(m:UpM M2 wa ha w h)(H:∀ w' a,SS w0 h0 w' a B Rs F->UpM M2 wa ha w' a->EG M P n N R X ops k0 hr AL (L.setIfInBounds i true) ((t,v)::Γ) w' a)(k:∀ w' a,SS w0 h0 w' a B Rs F->UpM M2 wa ha w' a->EG M P n N R X ops k0 hr AL (L.setIfInBounds c true) ((e,d)::Γ) w' a)(l:qj n ops k0 AL L Γ i t c e=true:=by kernel_rfl)(p:bR B ps=true:=by kernel_rfl)(o:bP P (execOp (ev Γ) (av ops i)) (cf B ps)=some (.value v,bO B ps):=by kernel_rfl)(f:bR B b=true:=by kernel_rfl)(j:bP P (execOp (ev Γ) (av ops c)) (cf B b)=some (.value d,bO B b):=by kernel_rfl):EG M P n N R X ops k0 hr AL L Γ w h :=
 Rg.two i t c e l (fun w' a u=>⟨v,w',a,bH _ _ _ _ o (bQ (s.step u).st.own ps p),UpM.refl u.g,H w' a (s.step u) (m.trans (u.m _))⟩) (fun w' a u=>⟨d,w',a,bH _ _ _ _ j (bQ (s.step u).st.own b f),UpM.refl u.g,k w' a (s.step u) (m.trans (u.m _))⟩)
end
theorem jB (c:Nat)(z:c<256)(w:World)(h:Hp)(g:G w h):CV 74 #[.int .u8 (c:Nat)] w h (.bool (decide (dL (c)))):=by
 have a:=sS g;refine go Tryz.func74 [(0,.int .u8 (c:Nat))] rfl (aa a ac (aE (lL a ac ?_)));cases b:(decide ((97:Int)<=(c:Int)))
 .
  have l:=oF b;refine lB 4 b (lL a ac (lG 6 ?_));refine lG 7 (lL a [.v qF,.c,.c] ?_);cases e:(decide ((65:Int)<=(c:Int)))
  .
   have j:=oF e;refine lB 11 e (lL a ac (lG 13 ?_));exact lG 14 (lL a [.v qF,.v qF,.c] (af a [] qF (congrArg Value.bool (decide_eq_false (by unfold dL;omega)).symm)))
  have j:=oT e;refine lB 11 e (lL a aF ?_);cases d:(decide ((c:Int)<=(90:Int)))
  .
   have i:=oF d;exact lB 14 d (lL a [.v qF,.v qF,.c] (af a [] qF (congrArg Value.bool (decide_eq_false (by unfold dL;omega)).symm)))
  have i:=oT d;exact lB 14 d (lL a [.v qT,.v qT,.c] (af a [] qT (congrArg Value.bool (decide_eq_true (by unfold dL;omega)).symm)))
 have l:=oT b;refine lB 4 b (lL a aF ?_);cases f:(decide ((c:Int)<=(122:Int)))
 .
  have k:=oF f;refine lB 7 f (lL a [.v qF,.c,.c] ?_);have ⟨o,y⟩:=dT (p:=(65:Int)<=(c:Int)) oM;refine lB 11 o (lL a aF ?_);have ⟨u,x⟩:=dF (p:=(c:Int)<=(90:Int)) oM;exact lB 14 u (lL a [.v qF,.v qF,.c] (af a [] qF (congrArg Value.bool (decide_eq_false (by unfold dL;omega)).symm)))
 have k:=oT f;refine lB 7 f (lL a [.v qT,.c] (lG 10 ?_));exact lG 11 (lG 12 (lG 13 (lG 14 (lG 15 (lL a [.v qT,.c] (af a [] qT (congrArg Value.bool (decide_eq_true (by unfold dL;omega)).symm)))))))
theorem fD (c:Nat)(i:c<256)(w:World)(h:Hp)(g:G w h):CV 102 #[.int .u8 (c:Nat)] w h (.bool (decide (48<=(c)/\(c)<=57))):=by
 have a:=sS g;refine go Tryz.func102 [(0,.int .u8 (c:Nat))] rfl (aa a ac (aE (lL a ac ?_)));cases d:(decide ((48:Int)<=(c:Int)))
 .
  have e:=oF d;refine lB 4 d (lL a ac (lG 6 ?_));exact lG 7 (lL a [.v qF,.c] (af a [] qF (congrArg Value.bool (decide_eq_false oM).symm)))
 have e:=oT d;refine lB 4 d (lL a aF ?_);cases b:(decide ((c:Int)<=(57:Int)))
 .
  have f:=oF b;exact lB 7 b (lL a [.v qF,.c] (af a [] qF (congrArg Value.bool (decide_eq_false oM).symm)))
 have f:=oT b;exact lB 7 b (lL a [.v qT,.c] (af a [] qT (congrArg Value.bool (decide_eq_true oM).symm)))
theorem k9 (c:Nat)(k:c<256)(w:World)(h:Hp)(g:G w h):CV 75 #[.int .u8 (c:Nat)] w h (.bool (decide (kh (c)))):=by
 have a:=sS g;refine go Tryz.func75 [(0,.int .u8 (c:Nat))] rfl (aa a ac (aE (lL a ac (aq 4 a (jB c k _ _ a.g) (fun w1 o a=>?_)))));cases j:(decide (dL (c)))
 .
  have e:=oF j;refine lL a aF (aq 7 a (fD c k _ _ a.g) (fun l p a=>?_));cases i:(decide (48<=(c)/\(c)<=57))
  .
   have d:=oF i;refine lL a [.v qF,.c,.c] ?_;cases b:((c:Int) == (95:Int))
   .
    have f:=ao b;exact lB 11 b (lL a [.v qF,.c] (af a [] qF (congrArg Value.bool (decide_eq_false (by unfold dL at *;unfold kh;omega)).symm)))
   have f:=eq_of_beq b;exact lB 11 b (lL a [.v qT,.c] (af a [] qT (congrArg Value.bool (decide_eq_true (by unfold dL at *;unfold kh;omega)).symm)))
  have d:=oT i;refine lL a [.v qT,.c] (lG 10 ?_);exact lG 11 (lL a [.v qT,.c] (af a [] qT (congrArg Value.bool (decide_eq_true (by unfold dL at *;unfold kh;omega)).symm)))
 have e:=oT j;refine lL a ac (lG 6 ?_);refine lG 7 (lL a [.v qT,.c] (lG 10 ?_));exact lG 11 (lL a [.v qT,.c] (af a [] qT (congrArg Value.bool (decide_eq_true (by unfold dL at *;unfold kh;omega)).symm)))
theorem nt  (w:World)(h:Hp)(g:G w h):CR 76 #[] w h (fun v h1=>∃ b,v=.map (some b)/\MapS h1 b gI):=by
 have a:=sS g;refine go Tryz.func76 [] rfl (aa a ac (aE (IH 1 a (fun o w2 z a l=>Gs 118 9 3 (⟨#[97,98,115]⟩) (iV 9) a l (fun x a i=>Gs 118 9 3 (⟨#[114,97,109,112]⟩) (iV 10) a i (fun u a k=>Gs 118 9 3 (⟨#[98,101,110,100]⟩) (iV 11) a k (fun y a d=>Gs 118 9 3 (⟨#[109,97,120]⟩) (iV 12) a d (fun _ a e=>Gs 118 9 3 (⟨#[109,105,110]⟩) (iV 13) a e (fun _ a c=>lL a ac ?_)))))))));obtain ⟨_,a,j⟩:=a.pubMap c;replace a:=a.to [] [];replace a:=a.add (K:=fun p=>MapS p o [⟨.string (⟨#[97,98,115]⟩),iV 9,0⟩,⟨.string (⟨#[114,97,109,112]⟩),iV 10,1⟩,⟨.string (⟨#[98,101,110,100]⟩),iV 11,2⟩,⟨.string (⟨#[109,97,120]⟩),iV 12,3⟩,⟨.string (⟨#[109,105,110]⟩),iV 13,4⟩]) j;exact lL a ac (af a [] (.map (some o)) (⟨_,rfl,a.f.1⟩))
theorem D5 (s:ByteArray)(a:s.size<=1000000)(w:World)(h:Hp)(g:G w h):CV 44 #[.string s] w h (.bool (cD s)):=by
 have a:=sS g;refine go Tryz.func44 [(0,.string s)] rfl (aa a ac (ai (aa a [.c,.v (nV s.size)] ?_)));cases e:(decide ((s.size:Int)<(1:Int)))
 .
  have D:=oF e;refine lB 8 e (lL a [.c,.c,.v (nV s.size)] ?_);cases l:(decide ((20:Int)<(s.size:Int)))
  .
   have F:=oF l;refine lB 12 l (lL a [.v qF,.c,.c] (lV 16 (.int .u8 (aj s 0:Nat)) ?_ (hr:=aR (tx:=9) (x:=.tmp 15) (i:=.const (iV 0)) (k:=.i64) (s:=s) (n:=0) (j:=(0:Int)) kR kR kR kR oM oM _)));refine aq 17 a (jB ((aj s 0)) (bh _ _) _ _ a.g) (fun w3 O a=>?_);cases u:(decide (dL ((aj s 0))))
   .
    have C:=oF u;exact lL a [.v qT,.v qT] (ak (aa a ac (af a [] qF (mn (fun b=>by have z:=b.1;have B:=b.2.1;first|omega|exact absurd b.2.2 aM)))))
   have C:=oT u;refine lL a [.v qF,.v qF] (ah (cK (cQ (aa a [.c,.v (nV s.size),.c] (bx ?_)))));refine bG _ (CG.loop (fun H Γ W=>∃ (k:Nat)(b:Hp),H=s.size-k/\Γ=[(0,.string s),(21,nV s.size),(22,nV k)]/\SS w h W b [] [] []/\k<=s.size/\(∀ i,i<k->kh (aj s i))) _ ⟨0,O,rfl,rfl,a.to _ _,JF _,(fun i hi=>absurd hi (Ke i))⟩ ?_);rintro _ _ w6 ⟨k,X,M,rfl,a,Y,p⟩;refine aG ?_;cases d:(decide ((k:Int)<(s.size:Int)))
   .
    have y:=oF d;refine lB 23 d (ai (cV (CG.exit ?_)))
    show CG _ _ _ _ _ _ _ _
    refine aG (lC 32 a (nt _ _ a.g) ?_);rintro _ _ _ a ⟨V,rfl,I⟩;replace a:=(a.add (K:=fun b=>MapS b V gI) I);refine lL a ac (Il 34 118 9 3 (s) true (iV (ag s)) ((bU s)) a a.f.1 ?_ (hf:=(by rcases nP s with ⟨i_,e1_,e2_⟩|⟨e1_,e2_,e3_⟩;exact .inl ⟨i_,e1_,e2_⟩;exact .inr ⟨e1_,e2_,fun _=>by rw[e3_];kernel_rfl⟩)));refine lL a [.c,.v (iV (ag s)),.v (.bool (bU s)),.c,.c] (aE (lL a ac ?_));cases L:(!(bU s))
    .
     refine lB 38 L (lL a ac (lN (kX ?_)));have o:=Bk (s:=s) ⟨by omega,by omega⟩ aM (fun i hi=>p i oM);exact a.ret [] qF (congrArg Value.bool (by rw[o];exact (by assumption:(!bU s)=false).symm))
    refine lB 38 L (lL a ac (lN (kX ?_)));have o:=Bk (s:=s) ⟨by omega,by omega⟩ aM (fun i hi=>p i oM);exact a.ret [] qT (congrArg Value.bool (by rw[o];exact (by assumption:(!bU s)=true).symm))
   have y:=oT d;refine lB 23 d (ai (ci (cK (cQ (kZ (aa a aF (aE (lL a aF (lV 27 (.int .u8 (aj s k:Nat)) ?_ (hr:=aR (tx:=9) (x:=.tmp 25) (i:=.tmp 26) (k:=.i64) (s:=s) (n:=k) (j:=(k:Int)) kR kR kR kR oM oM _))))))))));refine aq 28 a (k9 ((aj s k)) (bh _ _) _ _ a.g) (fun _ Q a=>?_);cases J:(decide (kh ((aj s k))))
   .
    have S:=oF J;exact lL a [.v qT] (ak (aa a ac (af a [] qF (Dd (i:=k) oM aM))))
   have S:=oT J;refine lL a [.v qF] (ah (cK (kQ (bg 30 ((k:Nat)+1) (k+1) ?_))));refine lL a ac (lD ?_);intro Z U;refine ⟨_,_,?_,⟨k+1,Q,rfl,rfl,a.to _ _,oM,(fun i hi=>by rcases Kf.1 hi with b|rfl;exact p i b;assumption)⟩,U.to _ kR⟩
   omega
  have F:=oT l;refine lB 12 l (lL a [.v qT,.c] (lG 15 ?_));exact lG 16 (lG 17 (lG 18 (lL a [.v qT] (ak (aa a ac (af a [] qF (mn (fun b=>by have z:=b.1;have B:=b.2.1;first|omega|exact absurd b.2.2 aM))))))))
 have D:=oT e;refine lB 8 e (lL a ac (lG 10 ?_));refine lG 11 (lG 12 (lL a [.v qT,.c] (lG 15 ?_)));exact lG 16 (lG 17 (lG 18 (lL a [.v qT] (ak (aa a ac (af a [] qF (mn (fun b=>by have z:=b.1;have B:=b.2.1;first|omega|exact absurd b.2.2 aM))))))))
theorem i9 (c:Nat)(z:c<256)(w:World)(h:Hp)(g:G w h):CV 79 #[.int .u8 (c:Nat)] w h (.bool (decide (dL (c)))):=by
 have a:=sS g;refine go Tryz.func79 [(0,.int .u8 (c:Nat))] rfl (aa a ac (aE (lL a ac ?_)));cases b:(decide ((97:Int)<=(c:Int)))
 .
  have l:=oF b;refine lB 4 b (lL a ac (lG 6 ?_));refine lG 7 (lL a [.v qF,.c,.c] ?_);cases e:(decide ((65:Int)<=(c:Int)))
  .
   have j:=oF e;refine lB 11 e (lL a ac (lG 13 ?_));exact lG 14 (lL a [.v qF,.v qF,.c] (af a [] qF (congrArg Value.bool (decide_eq_false (by unfold dL;omega)).symm)))
  have j:=oT e;refine lB 11 e (lL a aF ?_);cases d:(decide ((c:Int)<=(90:Int)))
  .
   have i:=oF d;exact lB 14 d (lL a [.v qF,.v qF,.c] (af a [] qF (congrArg Value.bool (decide_eq_false (by unfold dL;omega)).symm)))
  have i:=oT d;exact lB 14 d (lL a [.v qT,.v qT,.c] (af a [] qT (congrArg Value.bool (decide_eq_true (by unfold dL;omega)).symm)))
 have l:=oT b;refine lB 4 b (lL a aF ?_);cases f:(decide ((c:Int)<=(122:Int)))
 .
  have k:=oF f;refine lB 7 f (lL a [.v qF,.c,.c] ?_);have ⟨o,y⟩:=dT (p:=(65:Int)<=(c:Int)) oM;refine lB 11 o (lL a aF ?_);have ⟨u,x⟩:=dF (p:=(c:Int)<=(90:Int)) oM;exact lB 14 u (lL a [.v qF,.v qF,.c] (af a [] qF (congrArg Value.bool (decide_eq_false (by unfold dL;omega)).symm)))
 have k:=oT f;refine lB 7 f (lL a [.v qT,.c] (lG 10 ?_));exact lG 11 (lG 12 (lG 13 (lG 14 (lG 15 (lL a [.v qT,.c] (af a [] qT (congrArg Value.bool (decide_eq_true (by unfold dL;omega)).symm)))))))
theorem gj (c:Nat)(i:c<256)(w:World)(h:Hp)(g:G w h):CV 80 #[.int .u8 (c:Nat)] w h (.bool (decide (48<=(c)/\(c)<=57))):=by
 have a:=sS g;refine go Tryz.func80 [(0,.int .u8 (c:Nat))] rfl (aa a ac (aE (lL a ac ?_)));cases d:(decide ((48:Int)<=(c:Int)))
 .
  have e:=oF d;refine lB 4 d (lL a ac (lG 6 ?_));exact lG 7 (lL a [.v qF,.c] (af a [] qF (congrArg Value.bool (decide_eq_false oM).symm)))
 have e:=oT d;refine lB 4 d (lL a aF ?_);cases b:(decide ((c:Int)<=(57:Int)))
 .
  have f:=oF b;exact lB 7 b (lL a [.v qF,.c] (af a [] qF (congrArg Value.bool (decide_eq_false oM).symm)))
 have f:=oT b;exact lB 7 b (lL a [.v qT,.c] (af a [] qT (congrArg Value.bool (decide_eq_true oM).symm)))
theorem vQ (s:ByteArray)(w:World)(h:Hp)(g:G w h):CV 81 #[.string s] w h (.tuple #[iV (ag s),iV (gW s)]):=by
 have a:=sS g;refine go Tryz.func81 [(0,.string s)] rfl (aa a aF (ai (aa a ac (bx (aG ?_)))));cases f:(kl s (⟨#[97,98,115]⟩))
 .
  have i:=gh f;refine lB 6 f (lL a ac (ah (aG ?_)));cases c:(kl s (⟨#[114,97,109,112]⟩))
  .
   have k:=gh c;refine lB 8 c (lL a ac (ah (aG ?_)));cases e:(kl s (⟨#[98,101,110,100]⟩))
   .
    have j:=gh e;refine lB 10 e (lL a ac (ah (aG ?_)));cases d:(kl s (⟨#[109,97,120]⟩))
    .
     have o:=gh d;refine lB 12 d (lL a ac (ah (aG ?_)));cases b:(kl s (⟨#[109,105,110]⟩))
     .
      have l:=gh b;refine lB 14 b (lL a ac (ah (cK (aa a aF (lN (kX ?_))))));have p:ag s=0:=by unfold ag;rw[if_neg (by assumption:¬s=⟨#[97,98,115]⟩),if_neg (by assumption:¬s=⟨#[114,97,109,112]⟩),if_neg (by assumption:¬s=⟨#[98,101,110,100]⟩),if_neg (by assumption:¬s=⟨#[109,97,120]⟩),if_neg (by assumption:¬s=⟨#[109,105,110]⟩)]
      exact a.ret [] (.tuple #[iV 0,iV 0]) (by unfold gW;rw[p];rfl)
     have l:=gu b;exact lB 14 b (lL a ac (ak (aa a aF (af a [] (.tuple #[iV 13,iV 2]) (by rw[(by assumption:s=⟨#[109,105,110]⟩)];rfl)))))
    have o:=gu d;exact lB 12 d (lL a ac (ak (aa a aF (af a [] (.tuple #[iV 12,iV 2]) (by rw[(by assumption:s=⟨#[109,97,120]⟩)];rfl)))))
   have j:=gu e;exact lB 10 e (lL a ac (ak (aa a aF (af a [] (.tuple #[iV 11,iV 1]) (by rw[(by assumption:s=⟨#[98,101,110,100]⟩)];rfl)))))
  have k:=gu c;exact lB 8 c (lL a ac (ak (aa a aF (af a [] (.tuple #[iV 10,iV 1]) (by rw[(by assumption:s=⟨#[114,97,109,112]⟩)];rfl)))))
 have i:=gu f;exact lB 6 f (lL a ac (ak (aa a aF (af a [] (.tuple #[iV 9,iV 1]) (by rw[(by assumption:s=⟨#[97,98,115]⟩)];rfl)))))
theorem DO (s:ByteArray)(a:s.size<=1000000)(w:World)(h:Hp)(g:G w h):CV 48 #[.string s] w h (.bool (cD s)):=by
 have a:=sS g;refine go Tryz.func48 [(0,.string s)] rfl (aa a ac (ai (aa a [.c,.v (nV s.size)] ?_)));cases f:(decide ((s.size:Int)<(1:Int)))
 .
  have D:=oF f;refine lB 8 f (lL a [.c,.c,.v (nV s.size)] ?_);cases l:(decide ((20:Int)<(s.size:Int)))
  .
   have F:=oF l;refine lB 12 l (lL a [.v qF,.c,.c] (lV 16 (.int .u8 (aj s 0:Nat)) ?_ (hr:=aR (tx:=9) (x:=.tmp 15) (i:=.const (iV 0)) (k:=.i64) (s:=s) (n:=0) (j:=(0:Int)) kR kR kR kR oM oM _)));refine aq 17 a (i9 ((aj s 0)) (bh _ _) _ _ a.g) (fun w3 S a=>?_);cases p:(decide (dL ((aj s 0))))
   .
    have B:=oF p;exact lL a [.v qT,.v qT] (ak (aa a ac (af a [] qF (mn (fun b=>by have y:=b.1;have z:=b.2.1;first|omega|exact absurd b.2.2 aM)))))
   have B:=oT p;refine lL a [.v qF,.v qF] (ah (cK (cQ (aa a ac (bx ?_)))));refine bG _ (CG.loop (fun J Γ Z=>∃ (k:Nat)(b:Hp),J=s.size-k/\Γ=[(0,.string s),(3,nV k)]/\SS w h Z b [] [] []/\k<=s.size/\(∀ i,i<k->kh (aj s i))) _ ⟨0,S,rfl,rfl,a.to _ _,JF _,(fun i hi=>absurd hi (Ke i))⟩ ?_);rintro _ _ w6 ⟨k,h7,Q,rfl,a,hk,d⟩;refine cQ (aa a [.c,.c,.v (nV s.size)] ?_);cases e:(decide ((k:Int)<(s.size:Int)))
   .
    have u:=oF e;refine lB 23 e (ah (CG.exit ?_))
    show CG _ _ _ _ _ _ _ _
    refine aa a ac (aq 46 a (vQ s _ _ a.g) (fun _ _ a=>lL a [.c,.v (iV (ag s)),.v (iV (gW s)),.c,.c] (aE (lL a ac ?_))));cases I:(((ag s):Int) == (0:Int))
    .
     have U:=ao I;refine lB 50 I (lL a ac (lN (kX ?_)));have o:=Bk (s:=s) ⟨by omega,by omega⟩ aM (fun i hi=>d i oM);exact a.ret [] qF (congrArg Value.bool (by rw[o];unfold bU;simp only[ne_eq,decide_not,Kg];exact (decide_eq_false oM).symm))
    have U:=eq_of_beq I;refine lB 50 I (lL a ac (lN (kX ?_)));have o:=Bk (s:=s) ⟨by omega,by omega⟩ aM (fun i hi=>d i oM);exact a.ret [] qT (congrArg Value.bool (by rw[o];unfold bU;simp only[ne_eq,decide_not,Kg];exact (decide_eq_true oM).symm))
   have u:=oT e;refine lB 23 e (ak (cK (cQ (kZ (aa a aF (lV 28 (.int .u8 (aj s k:Nat)) ?_ (hr:=aR (tx:=9) (x:=.tmp 26) (i:=.tmp 27) (k:=.i64) (s:=s) (n:=k) (j:=(k:Int)) kR kR kR kR oM oM _)))))));refine aq 29 a (i9 ((aj s k)) (bh _ _) _ _ a.g) (fun _ W a=>?_);cases M:(decide (dL ((aj s k))))
   .
    have V:=oF M;refine lL a [.v qT,.c,.c,.c] (lV 34 (.int .u8 (aj s k:Nat)) ?_ (hr:=aR (tx:=9) (x:=.tmp 32) (i:=.tmp 33) (k:=.i64) (s:=s) (n:=k) (j:=(k:Int)) kR kR kR kR oM oM _));refine aq 35 a (gj ((aj s k)) (bh _ _) _ _ a.g) (fun _ O a=>?_);cases L:(decide (48<=((aj s k))/\((aj s k))<=57))
    .
     have Y:=oF L;refine lL a [.v qT,.v qT,.c,.c,.c] (lV 41 (.int .u8 (aj s k:Nat)) ?_ (hr:=aR (tx:=9) (x:=.tmp 39) (i:=.tmp 40) (k:=.i64) (s:=s) (n:=k) (j:=(k:Int)) kR kR kR kR oM oM _));cases H:(((aj s k:Nat):Int) != (95:Int))
     .
      have X:=az H;refine lB 42 H (lL a [.v qF] (ah (cK (kQ (lL a ac (bg 25 ((k:Nat)+1) (k+1) ?_))))));refine lL a ac (lD ?_);intro K C;refine ⟨_,_,?_,⟨k+1,O,rfl,rfl,a.to _ _,oM,(fun i hi=>by rcases Kf.1 hi with b|rfl;exact d i b;unfold kh;unfold dL at *;omega)⟩,C.to _ kR⟩
      omega
     have X:=a7 H;exact lB 42 H (lL a [.v qT] (ak (aa a ac (af a [] qF (Dd (i:=k) oM (fun b=>by unfold kh at b;unfold dL at *;omega))))))
    have Y:=oT L;refine lL a [.v qF,.v qF,.c] (lG 39 ?_);refine lG 40 (lG 41 (lG 42 (lL a [.v qF] (ah (cK (kQ (lL a ac (bg 25 ((k:Nat)+1) (k+1) ?_))))))));refine lL a ac (lD ?_);intro K C;refine ⟨_,_,?_,⟨k+1,O,rfl,rfl,a.to _ _,oM,(fun i hi=>by rcases Kf.1 hi with b|rfl;exact d i b;unfold kh;unfold dL at *;omega)⟩,C.to _ kR⟩
    omega
   have V:=oT M;refine lL a [.v qF,.c] (lG 32 ?_);refine lG 33 (lG 34 (lG 35 (lG 36 (lL a [.v qF,.c] (lG 39 ?_)))));refine lG 40 (lG 41 (lG 42 (lL a [.v qF] (ah (cK (kQ (lL a ac (bg 25 ((k:Nat)+1) (k+1) ?_))))))));refine lL a ac (lD ?_);intro K C;refine ⟨_,_,?_,⟨k+1,W,rfl,rfl,a.to _ _,oM,(fun i hi=>by rcases Kf.1 hi with b|rfl;exact d i b;unfold kh;unfold dL at *;omega)⟩,C.to _ kR⟩
   omega
  have F:=oT l;refine lB 12 l (lL a [.v qT,.c] (lG 15 ?_));exact lG 16 (lG 17 (lG 18 (lL a [.v qT] (ak (aa a ac (af a [] qF (mn (fun b=>by have y:=b.1;have z:=b.2.1;first|omega|exact absurd b.2.2 aM))))))))
 have D:=oT f;refine lB 8 f (lL a ac (lG 10 ?_));refine lG 11 (lG 12 (lL a [.v qT,.c] (lG 15 ?_)));exact lG 16 (lG 17 (lG 18 (lL a [.v qT] (ak (aa a ac (af a [] qF (mn (fun b=>by have y:=b.1;have z:=b.2.1;first|omega|exact absurd b.2.2 aM))))))))
structure LayLen (L:Lay):Prop where
  rl:L.W.length<=1000000
  rls:∀ i,i<L.W.length->(L.W.getD i []).length<=1000000
  bl:L.B.length<=1000000
structure Mat (W:List (List Rat)) (r c:Nat):Prop where
  rows:W.length=r
  rpos:0<r
  cpos:0<c
  row:∀ i,i<r->(W.getD i []).length=c
structure Net3 (ls:List Lay) (d:Nat->Nat):Prop where
  len:1<=ls.length/\ls.length<=4
  first:d 0<=20
  lay:∀ i,i<ls.length->Mat (ls.getD i iE).W (d (i+1)) (d i)/\(ls.getD i iE).B.length=d (i+1)/\d (i+1)<=12/\((ls.getD i iE).k=1\/(ls.getD i iE).k=2\/(ls.getD i iE).k=3)
def IJ (k:Int)(u:Rat):Rat:=if k=2 then HP u 0 else if k=3 then u/(((1:Int):Rat)+HC u) else u
def H8 (L:Lay)(x:List Rat):List Rat:=(List.range L.W.length).map fun i=>IJ L.k (Fm (L.W.getD i []) x x.length+L.B.getD i 0)
def BV (ls:List Lay)(xs:List Rat):Nat->List Rat
  | 0=>xs
  | k+1=>H8 (ls.getD k iE) (BV ls xs k)
abbrev gD (ls:List Lay)(xs:List Rat)(k r:Nat):Rat:=Fm ((ls.getD k iE).W.getD r []) (BV ls xs k) (BV ls xs k).length
abbrev gS (ls:List Lay)(xs:List Rat)(k r:Nat):Rat:=gD ls xs k r+((ls.getD k iE).B).getD r 0
structure NetB (ls:List Lay) (xs:List Rat):Prop where
  w:∀ k i j,LQ 1000000 (((ls.getD k iE).W.getD i []).getD j 0)
  b:∀ k i,LQ 1000000 ((ls.getD k iE).B.getD i 0)
  x:∀ k,k<=ls.length->∀ j,LQ 1000000 ((BV ls xs k).getD j 0)
structure LaySz (L:Lay):Prop where
  rl:L.W.length<=8
  rls:∀ i,(L.W.getD i []).length<=8
  bl:L.B.length<=8
  w:∀ i j,LQ 1 ((L.W.getD i []).getD j 0)
  b:∀ i,LQ 1 (L.B.getD i 0)
  b4:L.B.length<=4
  w4:(L.W.getD 0 []).length<=4
theorem FC {k:Nat}(h:1<=k):LQ k 0:=(LQ.lit (z:=0) kD).mono h
theorem tB (a:Rat):fs a a=0:=by unfold fs dS;rw[if_neg oM,if_neg oM]
structure LayS4 (L:Lay):Prop where
  rl:L.W.length<=4
  rls:∀ i,(L.W.getD i []).length<=4
  bl:L.B.length<=4
  w:∀ i j,LQ 1 ((L.W.getD i []).getD j 0)
  b:∀ i,LQ 1 (L.B.getD i 0)
def Ix (op n:Int)(a b:Rat):Prop:=(op=6->b≠0)/\(op=8->n<0->a≠0)
instance (op n:Int) (a b:Rat):Decidable (Ix op n a b):=by unfold Ix;infer_instance
def IG (op:Int)(a b:Rat):Prop:=(op=9\/op=10)/\a=0\/(op=12\/op=13)/\a=b
instance (op:Int) (a b:Rat):Decidable (IG op a b):=by unfold IG;infer_instance
theorem v8 {α:Type}{l:List α}{d x:α}{k i:Nat}(a:k<l.length):(l.set k x).getD i d=if i=k then x else l.getD i d:=by
 rw[B1,List.getElem?_set]
 by_cases e:k=i
 ·subst e;rw[if_pos rfl,if_pos a,if_pos rfl];rfl
 ·rw[if_neg e,if_neg (fun h=>e h.symm),<-B1]
def TmsU (d:Nat)(h:Hp)(k:Nat)(ps:List PTm)(ts:List Tm):Prop:=∀ i,i<k->TmH d h (ps.getD i a6) (ts.getD i cc)
theorem TmsU.gw {d:Nat}{h a:Hp}{k:Nat}{ps:List PTm}{b:List Tm}(x:TmsU d h k ps b)(u:Gw h a):TmsU d a k ps b:=fun i hi=>(x i hi).gw u
theorem TmsU.set {d:Nat}{h:Hp}{k:Nat}{ps:List PTm}{a:List Tm}{p:PTm}(x:TmsU d h k ps a)(b:k<ps.length)(y:TmH d h p (a.getD k cc)):TmsU d h (k+1) (ps.set k p) a:=fun i hi=>by
 rw[v8 b]
 by_cases e:i=k
 ·subst e;rw[if_pos rfl];exact y
 ·rw[if_neg e];exact x i oM
theorem Tms.of_u {d:Nat}{h:Hp}{k:Nat}{ps:List PTm}{a:List Tm}(b:ps.length=a.length)(c:a.length<=k)(x:TmsU d h k ps a):Tms d h ps a:=⟨b,fun i hi=>x i oM⟩
theorem t8 (f:Nat->Nat){a b:Nat}(h:a<=b):f4 f a<=f4 f b:=by
 induction h with
 | refl=>exact eb _
 | step _ ih=>exact ed ih (Nat.le_add_right _ _)
def oz (op n:Int):Nat:=if op=11 then 2 else if op=8 then cY n else 1
theorem jm (op n:Int):1<=oz op n:=by
 unfold oz cY
 split
 ·omega
 ·split
  ·split<;>omega
  ·omega
theorem CP {d:Nat}{op n:Int}{q:Rat}{s:ByteArray}{ks:List Tm}(h:ks.length=0):d8 (d+1) (.mk op n q s ks)=1:=if_pos h
theorem oL {d:Nat}{op n:Int}{q:Rat}{s:ByteArray}{ks:List Tm}(h:ks.length≠0):d8 (d+1) (.mk op n q s ks)=oz op n*f4 (fun i=>d8 d (ks.getD i cc)) ks.length:=if_neg h
theorem EU {d:Nat}{op n:Int}{q:Rat}{s:ByteArray}{ks:List Tm}(h:ks.length≠0):f4 (fun i=>d8 d (ks.getD i cc)) ks.length<=d8 (d+1) (.mk op n q s ks):=by
 rw[oL h];exact J6 _ (jm op n)
theorem mc {m s:Nat}(h:1<=m):min (m*min s 1001) 1001=min (m*s) 1001:=by
 rcases Nat.le_total s 1001 with e|e
 ·rw[Nat.min_eq_left e]
 ·rw[I8 e,I8 (ed e (J6 _ h)),I8 (J6 _ h)]
theorem nF (op:Int)(w:World)(h:Hp)(g:G w h):CV 42 #[iV op] w h (iV (fM op)):=by
 have a:=sS g;refine go Tryz.func42 [(0,iV op)] rfl (aa a ac (ai (aa a ac (bx (cQ (aG ?_))))));cases e:((op:Int) == (1:Int))
 .
  have z:=ao e;refine lB 5 e (lL a ac (ah (kQ ?_)));cases j:((op:Int) == (2:Int))
  .
   have C:=ao j;refine lB 6 j (lL a ac (ah (cQ (aG ?_))));cases f:((op:Int) == (7:Int))
   .
    have u:=ao f;refine lB 8 f (lL a ac (ah (aG ?_)));cases k:((op:Int) == (8:Int))
    .
     have x:=ao k;refine lB 9 k (lL a ac (ah (aG ?_)));cases b:((op:Int) == (9:Int))
     .
      have y:=ao b;refine lB 10 b (lL a ac (ah (aG ?_)));cases l:((op:Int) == (10:Int))
      .
       have p:=ao l;refine lB 11 l (lL a ac (ah (kQ ?_)));cases d:((op:Int) == (11:Int))
       .
        have B:=ao d;refine lB 12 d (lL a ac (ah (cQ (aG ?_))));cases i:((op:Int) == (3:Int))
        .
         have D:=ao i;refine lB 14 i (lL a ac (ah (aG ?_)));cases c:((op:Int) == (4:Int))
         .
          have o:=ao c;refine lB 15 c (lL a ac (ah (aG ?_)));cases I:((op:Int) == (5:Int))
          .
           have K:=ao I;refine lB 16 I (lL a ac (ah (aG ?_)));cases F:((op:Int) == (6:Int))
           .
            have L:=ao F;refine lB 17 F (lL a ac (ah (aG ?_)));cases J:((op:Int) == (12:Int))
            .
             have O:=ao J;refine lB 18 J (lL a ac (ah (kQ ?_)));cases H:((op:Int) == (13:Int))
             .
              have M:=ao H;exact lB 19 H (lL a ac (ah (cK (aa a ac (af a [] (iV (-1)) (congrArg (Value.int .i64) (by have:=aU op;omega)))))))
             have M:=eq_of_beq H;exact lB 19 H (lL a ac (ak (aa a ac (af a [] (iV 2) (congrArg (Value.int .i64) (by have:=aU op;omega))))))
            have O:=eq_of_beq J;exact lB 18 J (lL a ac (ak (cK (ci (aa a ac (af a [] (iV 2) (congrArg (Value.int .i64) (by have:=aU op;omega))))))))
           have L:=eq_of_beq F;exact lB 17 F (lL a ac (ak (cK (ci (aa a ac (af a [] (iV 2) (congrArg (Value.int .i64) (by have:=aU op;omega))))))))
          have K:=eq_of_beq I;exact lB 16 I (lL a ac (ak (cK (ci (aa a ac (af a [] (iV 2) (congrArg (Value.int .i64) (by have:=aU op;omega))))))))
         have o:=eq_of_beq c;exact lB 15 c (lL a ac (ak (cK (ci (aa a ac (af a [] (iV 2) (congrArg (Value.int .i64) (by have:=aU op;omega))))))))
        have D:=eq_of_beq i;exact lB 14 i (lL a ac (ak (cK (ci (aa a ac (af a [] (iV 2) (congrArg (Value.int .i64) (by have:=aU op;omega))))))))
       have B:=eq_of_beq d;exact lB 12 d (lL a ac (ak (aa a ac (af a [] (iV 1) (congrArg (Value.int .i64) (by have:=aU op;omega))))))
      have p:=eq_of_beq l;exact lB 11 l (lL a ac (ak (cK (ci (aa a ac (af a [] (iV 1) (congrArg (Value.int .i64) (by have:=aU op;omega))))))))
     have y:=eq_of_beq b;exact lB 10 b (lL a ac (ak (cK (ci (aa a ac (af a [] (iV 1) (congrArg (Value.int .i64) (by have:=aU op;omega))))))))
    have x:=eq_of_beq k;exact lB 9 k (lL a ac (ak (cK (ci (aa a ac (af a [] (iV 1) (congrArg (Value.int .i64) (by have:=aU op;omega))))))))
   have u:=eq_of_beq f;exact lB 8 f (lL a ac (ak (cK (ci (aa a ac (af a [] (iV 1) (congrArg (Value.int .i64) (by have:=aU op;omega))))))))
  have C:=eq_of_beq j;exact lB 6 j (lL a ac (ak (aa a ac (af a [] (iV 0) (congrArg (Value.int .i64) (by have:=aU op;omega))))))
 have z:=eq_of_beq e;exact lB 5 e (lL a ac (ak (cK (ci (aa a ac (af a [] (iV 0) (congrArg (Value.int .i64) (by have:=aU op;omega))))))))
theorem Fv (n:Int)(h0 : -12<=n)(h1:n<=12)(w:World)(h:Hp)(g:G w h):CV 45 #[iV n] w h (nV (cY n)):=by
 have a:=sS g;refine go Tryz.func45 [(0,iV n)] rfl (aa a ac (ai (aa a ac ?_)));cases b:(decide ((n:Int)<=(-1073741824:Int)))
 .
  have e:=oF b;refine lB 4 b (lL a aF ?_);cases c:(decide ((1073741824:Int)<=(n:Int)))
  .
   have d:=oF c;refine lB 7 c (lL a [.v qF] (ah (cK (aa a aF (lI 11 (0-n) ?_)))));refine lV 12 (iV (max (max (n:Int) (0-n:Int)) (1:Int))) ?_ (hr:=aN (n:=(if (1:Int)>(if (0-n:Int)>(n:Int) then (0-n:Int) else (n:Int)) then (1:Int) else (if (0-n:Int)>(n:Int) then (0-n:Int) else (n:Int)))) kR (by simp only[FS]));exact lL a ac (af a [] (iV (max (max (n:Int) (0-n:Int)) (1:Int))) (congrArg (Value.int .i64) (by unfold cY;(repeat' split)<;>omega)))
  have d:=oT c;exact lB 7 c (lL a [.v qT] (ak (aa a ac (af a [] (iV 1073741824) (congrArg (Value.int .i64) (by unfold cY;(repeat' split)<;>omega))))))
 have e:=oT b;refine lB 4 b (lL a ac (lG 6 ?_));exact lG 7 (lL a [.v qT] (ak (aa a ac (af a [] (iV 1073741824) (congrArg (Value.int .i64) (by unfold cY;(repeat' split)<;>omega))))))
theorem v6  (sm:ByteArray->Prop)(d:Nat)(S:∀ (p:PTm) (t:Tm) (a:Int) (w:World) (h:Hp),G w h->TmH d h p t->SmT sm d t->(d:Int)<=a->a<=1000->Calls Tryz.prog 23 #[a8 p,iV a] w (Ret w h (fun v _=>v=.bool false)))(op n:Int)(q:Rat)(s:ByteArray)(A:Z9)(c:Nat)(ps:List PTm)(ks:List Tm)(Z:ps.length<=c)(O:ps.length<=3)(I:ks.length<=3)(C : -1000<=op/\op<=1000)(hn : -1000<=n/\n<=1000)(X:LQ 3000 q)(U:sm s)(W:∀ i,i<ks.length->SmT sm d (ks.getD i cc))(a:Int)(hm:((d+1:Nat):Int)<=a)(H:a<=1000)(w:World)(h:Hp)(g:G w h)(D:SlO 9 bv a6 h A ps)(y:Tms d h ps ks):CV 23 #[a8 ⟨op,n,q,s,A,ps.length,c⟩,iV a] w h (.bool false):=by
 have b:=(((sS g).aS D).add (K:=fun l=>Tms d l ps ks) y);have F:=(b.f.1).len;refine go Tryz.func23 [(0,a8 ⟨op,n,q,s,A,ps.length,c⟩),(1,iV a)] rfl (aG (lA 2 31 (bv ⟨op,n,q,s,A,ps.length,c⟩) b (fun B w2 Q b=>lL b ac (ai (aa b ac ?_)))));cases j:(decide ((a:Int)<(1:Int)))
 .
  have u:=oF j;refine lB 8 j (ah (cK (cQ (aa b [.v (qP B 8),.o (qS A ps.length c) 0 8 1,.v (nV ps.length),.c] (bx ?_)))));refine bG _ (CG.loop (fun z Γ V=>∃ (k:Nat)(l:Hp),z=ps.length-k/\Γ=[(1,iV a),(10,qS A ps.length c),(11,nV ps.length),(12,nV k)]/\SS w h V l [⟨B,31,bv ⟨op,n,q,s,A,ps.length,c⟩⟩] [] [fun l=>Tms d l ps ks,fun l=>SlO 9 bv a6 l A ps]/\k<=ps.length) _ ⟨0,Q,rfl,rfl,b.to _ _,JF _⟩ ?_);rintro _ _ w5 ⟨k,h6,L,rfl,b,hk⟩;refine aG ?_;cases e:(decide ((k:Int)<(ps.length:Int)))
  .
   have x:=oF e;refine lB 13 e (ai (cV (CG.exit ?_)))
   show CG _ _ _ _ _ _ _ _
   exact aa b ac (af b [] qF rfl)
  have x:=oT e;refine lB 13 e (ai (ci (cK (cQ (kZ (aG (lX 14 A ps.length c 9 (k:Nat) k ((b.f.2.1).ok oM) ?_)))))));refine lH 15 (a8 (ps.getD k a6)) b ((b.f.2.1).el k oM) (lA 6 31 a2 b (fun Y _ _ b=>lP 0 0 (bv (ps.getD k a6)) b (fun _ b=>aE (lL b [.o (a8 (ps.getD k a6)) 0 0 9,.c] (lI 18 (a-1) ?_)))));refine aq 19 b (S (ps.getD k a6) (ks.getD k cc) (a-1) _ _ b.g ((b.f.1).at_ k oM) (W k oM) oM oM) (fun _ J b=>ah (cK (kQ (bg 20 ((k:Nat)+1) (k+1) ?_))));refine lL b ac (lD ?_);intro a_ M;replace b:=b.drop 1 0;refine ⟨_,_,?_,⟨k+1,J,rfl,rfl,b.to _ _,oM⟩,M.to _ kR⟩
  omega
 have u:=oT j;refine lB 8 j (ak (aa b ac (lN (kX ?_))))
 exfalso;omega
theorem sJ (sm:ByteArray->Prop):∀ (d:Nat) (p:PTm) (t:Tm) (a:Int) (w:World) (h:Hp),G w h->TmH d h p t->SmT sm d t->(d:Int)<=a->a<=1000->Calls Tryz.prog 23 #[a8 p,iV a] w (Ret w h (fun v _=>v=.bool false))
  | 0,_,_,_,_,_,_,x,_,_,_=>x.elim
  | d+1,p,t,a,w,h,g,x,wf,hm,hm2=>by
    obtain ⟨op,n,q,s,A,c,ps,ks,rfl,rfl,i,f,b⟩:=x.open;obtain ⟨e,y,o,l,j,u⟩:=wf;have k:ks.length<=3:=e;exact v6 sm d (fun p t a w h=>sJ sm d p t a w h) op n q s A c ps ks i (by have:=b.len;omega) e y o l j u a hm hm2 w h g f b
theorem x3  (isb:ByteArray->Bool)(sm:ByteArray->Prop)(hIs:∀ s,sm s->∀ (w:World) (h:Hp),G w h->Calls Tryz.prog 44 #[.string s] w (Ret w h (fun v _=>∃ b,v=.bool b/\b=isb s)))(d:Nat)(ih:∀ (p:PTm) (t:Tm) (w:World) (h:Hp),G w h->TmH d h p t->SmT sm d t ->  Calls Tryz.prog 24 #[a8 p] w (Ret w h (fun v _=>∃ D,v=.bool D/\(D=true↔WfT (fun s=>isb s=true) d t))))(op n:Int)(q:Rat)(s:ByteArray)(A:Z9)(c:Nat)(ps:List PTm)(ks:List Tm)(hc:ps.length<=c)(hlp:ps.length<=3)(hk3:ks.length<=3)(hop : -1000<=op/\op<=1000)(hn : -1000<=n/\n<=1000)(hq:LQ 3000 q)(hsm:sm s)(hW:∀ i,i<ks.length->SmT sm d (ks.getD i cc))(w:World)(h:Hp)(g:G w h)(hK:SlO 9 bv a6 h A ps)(hKs:Tms d h ps ks):CR 24 #[a8 ⟨op,n,q,s,A,ps.length,c⟩] w h (fun v _=>∃ D,v=.bool D/\(D=true↔WfT (fun s=>isb s=true) (d+1) (.mk op n q s ks))):=by
 have a:=(((sS g).aS hK).add (K:=fun e=>Tms d e ps ks) hKs);have hln:=(a.f.1).len;have hsg:q.num.sign=0↔q.num=0:=Kh;refine go Tryz.func24 [(0,a8 ⟨op,n,q,s,A,ps.length,c⟩)] rfl (aG (lA 1 31 (bv ⟨op,n,q,s,A,ps.length,c⟩) a (fun l w2 h3 a=>lL a ac (ai (cQ (cR 7 [] mixed a aw ?_))))));refine eV 0 5 (pB l) (eO 1 6 [(0,0,1)] (iV op) a (eV 3 8 (qP l 8) (eO 4 9 [(0,8,1)] (qS A ps.length c) a (eV 5 10 (nV ps.length) (aK 2 7 a (fun _ _ a=>nF op _ _ a.g) (fun w4 h5 a=>?_))))));cases x:((fM op:Int) != (ps.length:Int))
 .
  have L:=az x;refine eB 6 11 x (cG a (fun w7 h8 a=>?_));refine tN (cV (cK (cQ (CG.join (fun Γ B=>∃ (H:Bool)(e:Hp),Γ=[(1,pB l),(2,qF),(20,.bool H)]/\SS w h B e [⟨l,31,bv ⟨op,n,q,s,A,ps.length,c⟩⟩] [] [fun e=>Tms d e ps ks,fun e=>SlO 9 bv a6 e A ps]/\(H=true->¬(op=1\/q.num=0))/\(H=false->(op=1\/q.num=0))) ?_ ?_))))
  .
   refine kQ (lL a [.v (pB l),.o (iV op) 0 0 1] ?_);cases y:((op:Int) != (1:Int))
   .
    have C:=az y;refine lB 14 y (lL a ac (lG 16 ?_));refine lG 17 (lG 18 (lG 19 (lL a [.v qF] (lD ?_))));intro u j;exact ⟨_,⟨false,h8,rfl,a.to _ _,(fun e=>absurd e kD),(fun _=>by omega)⟩,j.to _ kR⟩
   have C:=a7 y;refine lB 14 y (lL a [.c,.v (qP l 2),.o (qv q) 0 2 5] (aq 18 a (mE q (hq.mono oM) _ _ a.g) (fun _ zD a=>?_)));cases V:((q.num.sign:Int) != (0:Int))
   .
    have zs:=az V;refine lB 19 V (lL a [.v qF] (lD ?_));intro u j;exact ⟨_,⟨false,zD,rfl,a.to _ _,(fun e=>absurd e kD),(fun _=>by omega)⟩,j.to _ kR⟩
   have zs:=a7 V;refine lB 19 V (lL a [.v qT] (lD ?_));intro u j;exact ⟨_,⟨true,zD,rfl,a.to _ _,(fun _=>by omega),(fun e=>absurd e kD)⟩,j.to _ kR⟩
  rintro _ _ ⟨H,zE,rfl,a,zH,F⟩;cases zb:(H)
  .
   try rw[zb] at a
   try rw[zb]
   refine cV (cK (cQ (CG.join (fun Γ B=>∃ (J:Bool)(e:Hp),Γ=[(1,pB l),(2,qF),(39,.bool J)]/\SS w h B e [⟨l,31,bv ⟨op,n,q,s,A,ps.length,c⟩⟩] [] [fun e=>Tms d e ps ks,fun e=>SlO 9 bv a6 e A ps]/\(J=true->¬((op=2->isb s=true)/\(op≠2->s=⟨#[]⟩)))/\(J=false->((op=2->isb s=true)/\(op≠2->s=⟨#[]⟩)))) ?_ ?_)))
   .
    refine kQ (lL a [.v (pB l),.o (iV op) 0 0 1] ?_);cases W:((op:Int) == (2:Int))
    .
     have zt:=ao W;refine lB 23 W (lL a ac (lG 25 ?_));refine lG 26 (lG 27 (lG 28 (lL a [.v qF,.c,.v (pB l),.o (iV op) 0 0 1] ?_)));have zq:((op:Int) != (2:Int))=true:=xN oM;have bl:=a7 zq;refine lB 33 zq (lL a [.c,.v (qP l 7),.o (.string s) 0 7 1] ?_);cases X:(j7 s (⟨#[]⟩))
     .
      have zu:=ko X;refine lB 37 X (lL a [.v qF,.v qF] (lD ?_));intro u j;exact ⟨_,⟨false,zE,rfl,a.to _ _,(fun e=>absurd e kD),(fun _=>⟨fun e=>by first|exact z.symm.trans aM|exact absurd e oM,fun e=>by first|assumption|exact absurd e oM⟩)⟩,j.to _ kR⟩
     have zu:=kG X;refine lB 37 X (lL a [.v qT,.v qT] (lD ?_));intro u j;exact ⟨_,⟨true,zE,rfl,a.to _ _,(fun _ e=>by first|exact Ki ((e.1 oM).symm.trans (z.symm.trans aM))|exact absurd (e.2 oM) aM),(fun e=>absurd e kD)⟩,j.to _ kR⟩
    have zt:=eq_of_beq W;refine lB 23 W (lL a [.c,.v (qP l 7),.o (.string s) 0 7 1] (lC 27 a (hIs s hsm _ _ a.g) ?_));rintro _ _ zG a ⟨bi,rfl,z⟩;cases br:(bi)
    .
     refine lL a [.v qT,.v qT,.c] (lG 31 ?_);refine lG 32 (lG 33 (lG 34 (lG 35 (lG 36 (lG 37 (lG 38 (lL a [.v qT] (lD ?_))))))));intro u j;exact ⟨_,⟨true,zG,rfl,a.to _ _,(fun _ e=>by first|exact Ki ((e.1 oM).symm.trans (z.symm.trans aM))|exact absurd (e.2 oM) aM),(fun e=>absurd e kD)⟩,j.to _ kR⟩
    refine lL a [.v qF,.v qF,.c,.v (pB l),.o (iV op) 0 0 1] ?_;have zr:((op:Int) != (2:Int))=false:=mj oM;have bp:=az zr;refine lB 33 zr (lL a ac (lG 35 ?_));refine lG 36 (lG 37 (lL a [.v qF,.v qF] (lD ?_)));intro u j;exact ⟨_,⟨false,zG,rfl,a.to _ _,(fun e=>absurd e kD),(fun _=>⟨fun e=>by first|exact z.symm.trans aM|exact absurd e oM,fun e=>by first|assumption|exact absurd e oM⟩)⟩,j.to _ kR⟩
   rintro _ _ ⟨J,U,rfl,a,zI,O⟩;cases Z:(J)
   .
    try rw[Z] at a
    try rw[Z]
    refine cV (cK (cQ (CG.join (fun Γ B=>∃ (S:Bool)(e:Hp),Γ=[(1,pB l),(2,qF),(57,.bool S)]/\SS w h B e [⟨l,31,bv ⟨op,n,q,s,A,ps.length,c⟩⟩] [] [fun e=>Tms d e ps ks,fun e=>SlO 9 bv a6 e A ps]/\(S=true->¬((op=8\/n=0) /\ -12<=n/\n<=12))/\(S=false->((op=8\/n=0) /\ -12<=n/\n<=12))) ?_ ?_)))
    .
     refine kQ (lL a [.v (pB l),.o (iV op) 0 0 1] ?_);cases zf:((op:Int) != (8:Int))
     .
      have zv:=az zf;refine lB 42 zf (lL a ac (lG 44 ?_));refine lG 45 (lG 46 (lL a [.v qF,.c,.v (qP l 1),.o (iV n) 0 1 1] ?_));cases zg:(decide ((n:Int)<(-12:Int)))
      .
       have zw:=oF zg;refine lB 51 zg (lL a [.v qF,.c,.v (qP l 1),.o (iV n) 0 1 1] ?_);cases zi:(decide ((12:Int)<(n:Int)))
       .
        have zx:=oF zi;refine lB 56 zi (lL a [.v qF] (lD ?_));intro u j;exact ⟨_,⟨false,U,rfl,a.to _ _,(fun e=>absurd e kD),(fun _=>by omega)⟩,j.to _ kR⟩
       have zx:=oT zi;refine lB 56 zi (lL a [.v qT] (lD ?_));intro u j;exact ⟨_,⟨true,U,rfl,a.to _ _,(fun _=>by omega),(fun e=>absurd e kD)⟩,j.to _ kR⟩
      have zw:=oT zg;refine lB 51 zg (lL a [.v qT,.c] (lG 54 ?_));refine lG 55 (lG 56 (lL a [.v qT] (lD ?_)));intro u j;exact ⟨_,⟨true,U,rfl,a.to _ _,(fun _=>by omega),(fun e=>absurd e kD)⟩,j.to _ kR⟩
     have zv:=a7 zf;refine lB 42 zf (lL a [.c,.v (qP l 1),.o (iV n) 0 1 1] ?_);cases zj:((n:Int) != (0:Int))
     .
      have zA:=az zj;refine lB 46 zj (lL a [.v qF,.c,.v (qP l 1),.o (iV n) 0 1 1] ?_);have ⟨zJ,bm⟩:=dF (p:=(n:Int)<(-12:Int)) oM;refine lB 51 zJ (lL a [.v qF,.c,.v (qP l 1),.o (iV n) 0 1 1] ?_);have ⟨zK,bd⟩:=dF (p:=(12:Int)<(n:Int)) oM;refine lB 56 zK (lL a [.v qF] (lD ?_));intro u j;exact ⟨_,⟨false,U,rfl,a.to _ _,(fun e=>absurd e kD),(fun _=>by omega)⟩,j.to _ kR⟩
     have zA:=a7 zj;refine lB 46 zj (lL a [.v qT,.c] (lG 49 ?_));refine lG 50 (lG 51 (lL a [.v qT,.c] (lG 54 ?_)));refine lG 55 (lG 56 (lL a [.v qT] (lD ?_)));intro u j;exact ⟨_,⟨true,U,rfl,a.to _ _,(fun _=>by omega),(fun e=>absurd e kD)⟩,j.to _ kR⟩
    rintro _ _ ⟨S,zM,rfl,a,zL,Q⟩;cases zk:(S)
    .
     try rw[zk] at a
     try rw[zk]
     refine cV (cK (cQ (aa a [.v (qP l 8),.o (qS A ps.length c) 0 8 1,.v (nV ps.length),.c] (bx ?_))));refine bG _ (CG.loop (fun μ_ Γ B=>∃ (k:Nat)(e:Hp),μ_=ps.length-k/\Γ=[(59,qS A ps.length c),(60,nV ps.length),(61,nV k)]/\SS w h B e [⟨l,31,bv ⟨op,n,q,s,A,ps.length,c⟩⟩] [] [fun e=>Tms d e ps ks,fun e=>SlO 9 bv a6 e A ps]/\k<=ps.length/\(∀ i,i<k->WfT (fun s=>isb s=true) d (ks.getD i cc))) _ ⟨0,zM,rfl,rfl,a.to _ _,JF _,(fun i hi=>absurd hi (Ke i))⟩ ?_);rintro _ _ _ ⟨k,_,bq,rfl,a,hk,I⟩;refine aG ?_;cases Y:(decide ((k:Int)<(ps.length:Int)))
     .
      have zB:=oF Y;refine lB 62 Y (ai (cV (CG.exit ?_)))
      show CG _ _ _ _ _ _ _ _
      exact aa a ac (af a [] qT (CK ⟨by omega,F aM,O aM,Q aM⟩ hq (fun i hi=>I i oM)))
     have zB:=oT Y;refine lB 62 Y (ai (ci (cK (cQ (kZ (aG (lX 63 A ps.length c 9 (k:Nat) k ((a.f.2.1).ok oM) ?_)))))));refine lH 64 (a8 (ps.getD k a6)) a ((a.f.2.1).el k oM) (lA 4 31 a2 a (fun b63 _ _ a=>lP 0 0 (bv (ps.getD k a6)) a (fun _ a=>aE (lL a [.o (a8 (ps.getD k a6)) 0 0 9] (lC 66 a (ih (ps.getD k a6) (ks.getD k cc) _ _ a.g ((a.f.1).at_ k oM) (hW k oM)) ?_)))));rintro _ _ zN a ⟨bk,rfl,M⟩;cases bt:(bk)
     .
      exact lL a [.v qT] (ak (aa a ac (af a [] qF (C2 (k:=k) oM aM M))))
     refine lL a [.v qF] (ah (cK (kQ (bg 68 ((k:Nat)+1) (k+1) ?_))));refine lL a ac (lD ?_);intro u j;replace a:=a.drop 1 0;refine ⟨_,_,?_,⟨k+1,zN,rfl,rfl,a.to _ _,oM,(fun i hi=>by rcases Kf.1 hi with e|rfl;exact I i e;exact M.1 aM)⟩,j.to _ kR⟩
     omega
    try rw[zk] at a
    try rw[zk]
    exact ci (aa a ac (af a [] qF (pQ (fun e=>zL aM e.2.2.2))))
   try rw[Z] at a
   try rw[Z]
   exact ci (aa a ac (af a [] qF (pQ (fun e=>zI aM e.2.2.1))))
  try rw[zb] at a
  try rw[zb]
  exact ci (aa a ac (af a [] qF (pQ (fun e=>zH aM e.2.1))))
 have L:=a7 x;exact eB 6 11 x (cG a (fun _ _ a=>tN (ci (aa a ac (af a [] qF (pQ (fun e=>absurd e.1 oM)))))))
theorem kT (isb:ByteArray->Bool)(sm:ByteArray->Prop)(a:∀ s,sm s->∀ (w:World) (h:Hp),G w h->Calls Tryz.prog 44 #[.string s] w (Ret w h (fun v _=>∃ b,v=.bool b/\b=isb s))):∀ (d:Nat) (p:PTm) (t:Tm) (w:World) (h:Hp),G w h->TmH d h p t->SmT sm d t ->  Calls Tryz.prog 24 #[a8 p] w (Ret w h (fun v _=>∃ f,v=.bool f/\(f=true↔WfT (fun s=>isb s=true) d t)))
  | 0,_,_,_,_,_,x,_=>x.elim
  | d+1,p,t,w,h,g,x,wf=>by
    obtain ⟨op,n,q,s,A,c,ps,ks,rfl,rfl,k,j,e⟩:=x.open;obtain ⟨i,B,y,u,l,z⟩:=wf;have o:ks.length<=3:=i;exact x3 isb sm a d (fun p t w h=>kT isb sm a d p t w h) op n q s A c ps ks k (by have:=e.len;omega) i B y u l z w h g j e
theorem wJ  (ok:ByteArray->Prop)(d:Nat)(ih:∀ (p:PTm) (t:Tm) (w:World) (h:Hp),G w h->TmH d h p t->WfT ok d t ->  Calls Tryz.prog 25 #[a8 p,iV 1001] w (Ret w h (fun v _=>v=iV ((min (d8 d t) 1001:Nat):Int))))(op n:Int)(q:Rat)(s:ByteArray)(A:Z9)(c:Nat)(ps:List PTm)(ks:List Tm)(hc:ps.length<=c)(hlp:ps.length<=2)(M:fM op=(ks.length:Nat))(hq0:op≠1->q=0)(hq:LQ 3000 q)(hok:op=2->ok s)(hs0:op≠2->s=⟨#[]⟩)(hn0:op≠8->n=0)(hn1 : -12<=n)(U:n<=12)(hW:∀ i,i<ks.length->WfT ok d (ks.getD i cc))(w:World)(h:Hp)(g:G w h)(O:SlO 9 bv a6 h A ps)(J:Tms d h ps ks):CV 25 #[a8 ⟨op,n,q,s,A,ps.length,c⟩,iV 1001] w h (iV ((min (d8 (d+1) (.mk op n q s ks)) 1001:Nat):Int)):=by
 have a:=(((sS g).aS O).add (K:=fun y=>Tms d y ps ks) J);have Q:=(a.f.1).len;refine go Tryz.func25 [(0,a8 ⟨op,n,q,s,A,ps.length,c⟩),(1,iV 1001)] rfl (aG (lA 2 31 (bv ⟨op,n,q,s,A,ps.length,c⟩) a (fun B w2 h3 a=>lL a ac (ai (aa a [.v (qP B 8),.o (qS A ps.length c) 0 8 1,.v (nV ps.length)] ?_)))));cases x:((ps.length:Int) == (0:Int))
 .
  have D:=ao x;refine lB 11 x (ah (cK (aa a ac (ai (aa a [.v (qP B 8),.o (qS A ps.length c) 0 8 1,.v (nV ps.length),.c] (bx ?_))))));refine bG _ (CG.loop (fun L Γ w_=>∃ (k:Nat)(sm:Nat)(y:Hp),L=ps.length-k/\Γ=[(1,iV 1001),(2,pB B),(15,qS A ps.length c),(16,nV ps.length),(17,nV k),(5,nV sm)]/\SS w h w_ y [⟨B,31,bv ⟨op,n,q,s,A,ps.length,c⟩⟩] [] [fun y=>Tms d y ps ks,fun y=>SlO 9 bv a6 y A ps]/\k<=ps.length/\sm=min (f4 (fun i=>d8 d (ks.getD i cc)) k) 1001) _ ⟨0,0,h3,rfl,rfl,a.to _ _,JF _,rfl⟩ ?_);rintro _ _ w5 ⟨k,sm,h6,Z,rfl,a,hk,z⟩;have hs1:(f4 (fun i=>d8 d (ks.getD i cc)) (k+1))=(f4 (fun i=>d8 d (ks.getD i cc)) k)+d8 d (ks.getD k cc):=rfl;refine aG ?_;cases u:(decide ((k:Int)<(ps.length:Int)))
  .
   have F:=oF u;refine lB 18 u (ai (cV (CG.exit ?_)))
   show CG _ _ _ _ _ _ _ _
   refine cQ (aa a [.v (pB B),.o (iV op) 0 0 1] (bx (aG ?_)));cases l:((op:Int) == (11:Int))
   .
    have C:=ao l;refine lB 36 l (lL a ac (ah (aG ?_)));cases I:((op:Int) == (8:Int))
    .
     have Y:=ao I;refine lB 40 I (lL a ac (ah (cK (aa a aF (lV 48 (iV (min (sm:Int) (1001:Int))) ?_ (hr:=aN (n:=(if (1001:Int)<(sm:Int) then (1001:Int) else (sm:Int))) kR (by simp only[eF])))))));refine lL a ac (lN (kX ?_));have j:k=ks.length:=by omega
     have e:=oL (d:=d) (op:=op) (n:=n) (q:=q) (s:=s) (ks:=ks) oM;have b:=mc (s:=(f4 (fun i=>d8 d (ks.getD i cc)) k)) (jm op n);rw[<-j] at e
     rw[<-e,<-z] at b
     exact a.ret [] (iV (min (sm:Int) (1001:Int))) (congrArg (Value.int .i64) (by rw[<-b];unfold oz;first|(rw[if_pos oM];(repeat' split)<;>omega)|(rw[if_neg oM,if_pos oM,z2];(repeat' split)<;>omega)|(rw[if_neg oM,if_neg oM];(repeat' split)<;>omega)))
    have Y:=eq_of_beq I;refine lB 40 I (lL a ac (ak (kQ (lL a [.c,.v (qP B 1),.o (iV n) 0 1 1] (aq 44 a (Fv n oM oM _ _ a.g) (fun _ _ a=>?_))))));have htm:cY n<=12/\1<=cY n:=by unfold cY;split<;>omega
    have hmb:sm*cY n<=1001*12:=Jo oM oM;refine lI 45 ((sm:Nat)*(cY n:Nat)) (lL a ac (aE (lL a aF (lV 48 (iV (min ((sm:Nat)*(cY n:Nat):Int) (1001:Int))) ?_ (hr:=aN (n:=(if (1001:Int)<((sm:Nat)*(cY n:Nat):Int) then (1001:Int) else ((sm:Nat)*(cY n:Nat):Int))) kR (by simp only[eF]))))));refine lL a ac (lN (kX ?_));have j:k=ks.length:=by omega
    have e:=oL (d:=d) (op:=op) (n:=n) (q:=q) (s:=s) (ks:=ks) oM;have b:=mc (s:=(f4 (fun i=>d8 d (ks.getD i cc)) k)) (jm op n);rw[<-j] at e
    rw[<-e,<-z] at b
    exact a.ret [] (iV (min ((sm:Nat)*(cY n:Nat):Int) (1001:Int))) (congrArg (Value.int .i64) (by rw[<-b];unfold oz;first|(rw[if_pos oM];(repeat' split)<;>omega)|(rw[if_neg oM,if_pos oM,z2];(repeat' split)<;>omega)|(rw[if_neg oM,if_neg oM];(repeat' split)<;>omega)))
   have C:=eq_of_beq l;refine lB 36 l (lL a ac (ak (kQ (lL a ac (lI 38 ((sm:Nat)*2) ?_)))));refine lL a ac (aE (lL a aF (lV 48 (iV (min ((sm:Nat)*2:Int) (1001:Int))) ?_ (hr:=aN (n:=(if (1001:Int)<((sm:Nat)*2:Int) then (1001:Int) else ((sm:Nat)*2:Int))) kR (by simp only[eF])))));refine lL a ac (lN (kX ?_));have j:k=ks.length:=by omega
   have e:=oL (d:=d) (op:=op) (n:=n) (q:=q) (s:=s) (ks:=ks) oM;have b:=mc (s:=(f4 (fun i=>d8 d (ks.getD i cc)) k)) (jm op n);rw[<-j] at e
   rw[<-e,<-z] at b
   exact a.ret [] (iV (min ((sm:Nat)*2:Int) (1001:Int))) (congrArg (Value.int .i64) (by rw[<-b];unfold oz;first|(rw[if_pos oM];(repeat' split)<;>omega)|(rw[if_neg oM,if_pos oM,z2];(repeat' split)<;>omega)|(rw[if_neg oM,if_neg oM];(repeat' split)<;>omega)))
  have F:=oT u;refine lB 18 u (ai (ci (cK (cQ (kZ (aG (lX 19 A ps.length c 9 (k:Nat) k ((a.f.2.1).ok oM) ?_)))))));refine lH 20 (a8 (ps.getD k a6)) a ((a.f.2.1).el k oM) (lA 7 31 a2 a (fun W _ _ a=>lP 0 0 (bv (ps.getD k a6)) a (fun _ a=>aE (lL a [.c,.o (a8 (ps.getD k a6)) 0 0 9,.c] (aq 24 a (ih (ps.getD k a6) (ks.getD k cc) _ _ a.g ((a.f.1).at_ k oM) (hW k oM)) (fun _ V a=>lI 25 ((sm:Nat)+((min (d8 d (ks.getD k cc)) 1001:Nat):Int)) (lL a ac (lV 27 (iV ((min (f4 (fun i=>d8 d (ks.getD i cc)) (k+1)) 1001:Nat):Int)) ?_ (hr:=aN (n:=if (1001:Int)<((sm:Nat)+((min (d8 d (ks.getD k cc)) 1001:Nat):Int)) then (1001:Int) else ((sm:Nat)+((min (d8 d (ks.getD k cc)) 1001:Nat):Int))) kR (by split<;>omega))))))))));refine lL a ac (aE (lL a aF ?_));cases H:((((min (f4 (fun i=>d8 d (ks.getD i cc)) (k+1)) 1001:Nat):Int):Int) == (1001:Int))
  .
   have S:=ao H;refine lB 30 H (ah (cK (kQ (bg 32 ((k:Nat)+1) (k+1) ?_))));refine lL a ac (lD ?_);intro a_ ka;replace a:=a.drop 1 0;refine ⟨_,_,?_,⟨k+1,(min (f4 (fun i=>d8 d (ks.getD i cc)) (k+1)) 1001),V,rfl,rfl,a.to _ _,oM,rfl⟩,ka.to _ kR⟩
   omega
  have S:=eq_of_beq H;exact lB 30 H (ak (aa a aF (af a [] (iV 1001) (congrArg (Value.int .i64) (by have X:=t8 (fun i=>d8 d (ks.getD i cc)) (show k+1<=ks.length by omega);have h2_:=EU (d:=d) (op:=op) (n:=n) (q:=q) (s:=s) (ks:=ks) oM;omega)))))
 have D:=eq_of_beq x;exact lB 11 x (ak (aa a [.c,.v (iV 1),.c] (af a [] (iV 1) (congrArg (Value.int .i64) (by rw[CP oM];first|rfl|omega)))))
theorem k6 (ok:ByteArray->Prop):∀ (d:Nat) (p:PTm) (t:Tm) (w:World) (h:Hp),G w h->TmH d h p t->WfT ok d t ->  Calls Tryz.prog 25 #[a8 p,iV 1001] w (Ret w h (fun v _=>v=iV ((min (d8 d t) 1001:Nat):Int)))
  | 0,_,_,_,_,_,x,_=>x.elim
  | d + 1,p,t,w,h,g,x,wf=>by
    obtain ⟨op,n,q,s,A,c,ps,ks,rfl,rfl,i,f,a⟩:=x.open;obtain ⟨w1,w2,w3,k,j,o,e,u,l⟩:=wf
    have b:ps.length<=2:=by
      have y:fM op=ks.length:=w1;have:=aU op;have:=a.len
      omega
    exact wJ ok d (fun p t w h=>k6 ok d p t w h) op n q s A c ps ks i b w1 w2 w3 k j o e u l w h g f a
def tr (nm:Int->ByteArray)(l:List Stp)(i:Nat):Tm:=FL nm l (l.length+1) i
structure DpS (dp:Nat->Nat) (l:List Stp):Prop where
  one:∀ k,k<l.length->1<=dp k
  le:∀ k,k<l.length->dp k<=20
  a:∀ k,k<l.length->0<fM (l.getD k ft).op->dp (l.getD k ft).a.toNat<dp k
  b:∀ k,k<l.length->1<fM (l.getD k ft).op->dp (l.getD k ft).b.toNat<dp k
theorem Ha  (isb:ByteArray->Bool)(sm:ByteArray->Prop)(i:∀ s,sm s->∀ (w:World) (h:Hp),G w h->Calls Tryz.prog 44 #[.string s] w (Ret w h (fun v _=>∃ b,v=.bool b/\b=isb s)))(d:Nat)(p:PTm)(t:Tm)(C:d<=24)(w:World)(h:Hp)(g:G w h)(x:TmH d h p t)(k:SmT sm d t):CR 12 #[a8 p] w h (fun v _=>∃ e:Int,v=iV e/\((WfT (fun s=>isb s=true) d t/\e=(if 1000<d8 d t then 18 else 0))\/(¬WfT (fun s=>isb s=true) d t/\e=2))):=by
 have a:=((sS g).add (K:=fun j=>TmH d j p t) x);refine go Tryz.func12 [(0,a8 p)] rfl (aG (lA 1 31 (bv p) a (fun B w2 H a=>lL a ac (ai (aa a [.o (a8 p) 0 0 9] (aq 4 a (sJ sm d p t 24 _ _ a.g a.f.1 k oM oM) (fun z I a=>ah (cK (cQ (aa a [.o (a8 p) 0 0 9] (lC 6 a (kT isb sm i d p t _ _ a.g a.f.1 k) ?_)))))))))));rintro _ F y a ⟨bf,rfl,hbf⟩;cases u:(bf)
 .
  exact lL a [.v qT] (ak (aa a ac (af a [] (iV 2) (⟨_,rfl,.inr ⟨fun j=>Ki ((hbf.2 j).symm.trans aM),rfl⟩⟩))))
 refine lL a [.v qF] (ah (cK (cQ (aa a [.o (a8 p) 0 0 9] (aq 9 a (k6 (fun s=>isb s=true) d p t _ _ a.g a.f.1 (hbf.1 aM)) (fun D _ a=>?_))))));cases c:(decide ((1000:Int)<(((min (d8 d t) 1001:Nat):Int):Int)))
 .
  have l:=oF c;exact lB 10 c (ah (cK (aa a ac (af a [] (iV 0) (⟨_,rfl,.inl ⟨hbf.1 aM,by split<;>omega⟩⟩)))))
 have l:=oT c;exact lB 10 c (ak (aa a ac (af a [] (iV 18) (⟨_,rfl,.inl ⟨hbf.1 aM,by split<;>omega⟩⟩))))
theorem sN (isb:ByteArray->Bool)(sm:ByteArray->Prop)(c:∀ s,sm s->∀ (w:World) (h:Hp),G w h->Calls Tryz.prog 44 #[.string s] w (Ret w h (fun v _=>∃ b,v=.bool b/\b=isb s)))(f:∀ s,isb s=true->sm s)(h0:sm ⟨#[]⟩)(d:Nat)(p:PTm)(t:Tm)(l:d<=24)(w:World)(h:Hp)(g:G w h)(o:TmH d h p t)(i:WfT (fun s=>isb s=true) d t):Calls Tryz.prog 12 #[a8 p] w (Ret w h (fun v _=>v=iV (if 1000<d8 d t then 18 else 0))) :=
 (Ha isb sm c d p t l w h g o (i.sm f h0)).mono fun e w' ⟨v,j,k,u,y,x,a⟩=>⟨v,j,k,u,by
  rcases a with ⟨_,a⟩|⟨a,_⟩
  ·rw[x,a]
  ·exact absurd i a⟩
theorem Gp (op:Int)(w:World)(h:Hp)(g:G w h):CV 47 #[iV op] w h (iV (fM op)):=by
 have a:=sS g;refine go Tryz.func47 [(0,iV op)] rfl (aa a ac (ai (aa a ac (bx (cQ (aG ?_))))));cases e:((op:Int) == (1:Int))
 .
  have z:=ao e;refine lB 5 e (lL a ac (ah (kQ ?_)));cases j:((op:Int) == (2:Int))
  .
   have C:=ao j;refine lB 6 j (lL a ac (ah (cQ (aG ?_))));cases f:((op:Int) == (7:Int))
   .
    have u:=ao f;refine lB 8 f (lL a ac (ah (aG ?_)));cases k:((op:Int) == (8:Int))
    .
     have x:=ao k;refine lB 9 k (lL a ac (ah (aG ?_)));cases b:((op:Int) == (9:Int))
     .
      have y:=ao b;refine lB 10 b (lL a ac (ah (aG ?_)));cases l:((op:Int) == (10:Int))
      .
       have p:=ao l;refine lB 11 l (lL a ac (ah (kQ ?_)));cases d:((op:Int) == (11:Int))
       .
        have B:=ao d;refine lB 12 d (lL a ac (ah (cQ (aG ?_))));cases i:((op:Int) == (3:Int))
        .
         have D:=ao i;refine lB 14 i (lL a ac (ah (aG ?_)));cases c:((op:Int) == (4:Int))
         .
          have o:=ao c;refine lB 15 c (lL a ac (ah (aG ?_)));cases I:((op:Int) == (5:Int))
          .
           have K:=ao I;refine lB 16 I (lL a ac (ah (aG ?_)));cases F:((op:Int) == (6:Int))
           .
            have L:=ao F;refine lB 17 F (lL a ac (ah (aG ?_)));cases J:((op:Int) == (12:Int))
            .
             have O:=ao J;refine lB 18 J (lL a ac (ah (kQ ?_)));cases H:((op:Int) == (13:Int))
             .
              have M:=ao H;exact lB 19 H (lL a ac (ah (cK (aa a ac (af a [] (iV (-1)) (congrArg (Value.int .i64) (by have:=aU op;omega)))))))
             have M:=eq_of_beq H;exact lB 19 H (lL a ac (ak (aa a ac (af a [] (iV 2) (congrArg (Value.int .i64) (by have:=aU op;omega))))))
            have O:=eq_of_beq J;exact lB 18 J (lL a ac (ak (cK (ci (aa a ac (af a [] (iV 2) (congrArg (Value.int .i64) (by have:=aU op;omega))))))))
           have L:=eq_of_beq F;exact lB 17 F (lL a ac (ak (cK (ci (aa a ac (af a [] (iV 2) (congrArg (Value.int .i64) (by have:=aU op;omega))))))))
          have K:=eq_of_beq I;exact lB 16 I (lL a ac (ak (cK (ci (aa a ac (af a [] (iV 2) (congrArg (Value.int .i64) (by have:=aU op;omega))))))))
         have o:=eq_of_beq c;exact lB 15 c (lL a ac (ak (cK (ci (aa a ac (af a [] (iV 2) (congrArg (Value.int .i64) (by have:=aU op;omega))))))))
        have D:=eq_of_beq i;exact lB 14 i (lL a ac (ak (cK (ci (aa a ac (af a [] (iV 2) (congrArg (Value.int .i64) (by have:=aU op;omega))))))))
       have B:=eq_of_beq d;exact lB 12 d (lL a ac (ak (aa a ac (af a [] (iV 1) (congrArg (Value.int .i64) (by have:=aU op;omega))))))
      have p:=eq_of_beq l;exact lB 11 l (lL a ac (ak (cK (ci (aa a ac (af a [] (iV 1) (congrArg (Value.int .i64) (by have:=aU op;omega))))))))
     have y:=eq_of_beq b;exact lB 10 b (lL a ac (ak (cK (ci (aa a ac (af a [] (iV 1) (congrArg (Value.int .i64) (by have:=aU op;omega))))))))
    have x:=eq_of_beq k;exact lB 9 k (lL a ac (ak (cK (ci (aa a ac (af a [] (iV 1) (congrArg (Value.int .i64) (by have:=aU op;omega))))))))
   have u:=eq_of_beq f;exact lB 8 f (lL a ac (ak (cK (ci (aa a ac (af a [] (iV 1) (congrArg (Value.int .i64) (by have:=aU op;omega))))))))
  have C:=eq_of_beq j;exact lB 6 j (lL a ac (ak (aa a ac (af a [] (iV 0) (congrArg (Value.int .i64) (by have:=aU op;omega))))))
 have z:=eq_of_beq e;exact lB 5 e (lL a ac (ak (cK (ci (aa a ac (af a [] (iV 0) (congrArg (Value.int .i64) (by have:=aU op;omega))))))))
theorem Cr (z:Int)(A:Z9)(c:Nat)(w:World)(h:Hp)(g:G w h)(k:S3 A (lim (ab z)) h):CV 92 #[.agg #[.bool (au z),.slice A ((lim (ab z)).length) c]] w h (iV z.sign):=by
 have a:=((sS g).aS k);have i:0<(lim (ab z)).length↔0<ab z:=bI
 unfold ab at i
 refine go Tryz.func92 [(0,.agg #[.bool (au z),qS A ((lim (ab z)).length) c])] rfl (aG (lA 1 40 ([.bool (au z),qS A ((lim (ab z)).length) c]) a (fun j w2 l a=>lL a ac (ai (kZ (aa a [.v (qP j 1),.o (qS A ((lim (ab z)).length) c) 0 1 1,.v (nV ((lim (ab z)).length))] ?_))))));cases d:((((lim (ab z)).length:Nat):Int) == (0:Int))
 .
  have f:=ao d;refine lB 7 d (lL a ac (ah (aa a [.v (pB j),.o (.bool (au z)) 0 0 1,.c] (lN ?_))));cases b:(au z)
  .
   try rw[b] at a
   try rw[b]
   have e:=bJ b;exact cV (cK (aa a ac (af a [] (iV 1) (congrArg (Value.int .i64) (by first|(rw[show z=0 by (unfold ab at *;omega)];rfl)|exact (J4 oM).symm|exact (J5 (by unfold ab at *;omega)).symm)))))
  try rw[b] at a
  try rw[b]
  have e:=bT b;exact ci (aa a ac (af a [] (iV (-1)) (congrArg (Value.int .i64) (by first|(rw[show z=0 by (unfold ab at *;omega)];rfl)|exact (J4 oM).symm|exact (J5 (by unfold ab at *;omega)).symm))))
 have f:=eq_of_beq d;exact lB 7 d (lL a ac (ak (aa a ac (af a [] (iV 0) (congrArg (Value.int .i64) (by first|(rw[show z=0 by (unfold ab at *;omega)];rfl)|exact (J4 oM).symm|exact (J5 (by unfold ab at *;omega)).symm))))))
theorem HQ (z:Int)(A:Z9)(c n:Nat)(D:Z9)(d:Nat)(j:(lim (ab z)).length<=c)(l:(lim n).length<=d)(w:World)(h:Hp)(g:G w h)(i:S3 A (lim (ab z)) h)(b:S3 D (lim n) h):CV 63 #[.agg #[.bool (au z),.slice A ((lim (ab z)).length) c,.slice D ((lim n).length) d]] w h (iV z.sign):=by
 have a:=(((sS g).aS i).aS b);exact go Tryz.func63 [(0,.agg #[.bool (au z),qS A ((lim (ab z)).length) c,qS D ((lim n).length) d])] rfl (aG (lA 1 42 ([.bool (au z),qS A ((lim (ab z)).length) c,qS D ((lim n).length) d]) a (fun e w2 p a=>lL a ac (aE (lL a [.v (pB e),.o (.agg #[.bool (au z),qS A ((lim (ab z)).length) c]) 0 0 2] (aq 5 a (Cr z A c _ _ a.g a.f.2.1) (fun k u a=>lL a ac (af a [] (iV z.sign) rfl))))))))
theorem kO (z:Int)(A:Z9)(c n:Nat)(D:Z9)(d:Nat)(k:(lim (ab z)).length<=c)(y:(lim n).length<=d)(w:World)(h:Hp)(g:G w h)(B:S3 A (lim (ab z)) h)(p:S3 D (lim n) h):CV 36 #[.agg #[.bool (au z),.slice A ((lim (ab z)).length) c,.slice D ((lim n).length) d]] w h (.bool (decide (n=0\/z=0))):=by
 have a:=(((sS g).aS B).aS p);have l:0<(lim n).length↔0<n:=bI;refine go Tryz.func36 [(0,.agg #[.bool (au z),qS A ((lim (ab z)).length) c,qS D ((lim n).length) d])] rfl (aG (lA 1 42 ([.bool (au z),qS A ((lim (ab z)).length) c,qS D ((lim n).length) d]) a (fun u w2 H a=>lL a ac (aE (lL a [.v (qP u 2),.o (qS D ((lim n).length) d) 0 2 1,.v (nV ((lim n).length))] ?_)))));cases e:((((lim n).length:Nat):Int) == (0:Int))
 .
  have j:=ao e;refine lB 6 e (lL a [.c,.o (.agg #[.bool (au z),qS A ((lim (ab z)).length) c,qS D ((lim n).length) d]) 0 0 3] (aq 9 a (HQ z A c n D d k y _ _ a.g a.f.2.1 a.f.1) (fun C F a=>?_)));have x:z.sign=0↔z=0:=Kh;cases b:((z.sign:Int) == (0:Int))
  .
   have i:=ao b;exact lB 10 b (lL a [.v qF,.c] (af a [] qF (congrArg Value.bool (decide_eq_false oM).symm)))
  have i:=eq_of_beq b;exact lB 10 b (lL a [.v qT,.c] (af a [] qT (congrArg Value.bool (decide_eq_true oM).symm)))
 have j:=eq_of_beq e;refine lB 6 e (lL a ac (lG 8 ?_));exact lG 9 (lG 10 (lL a [.v qT,.c] (af a [] qT (congrArg Value.bool (decide_eq_true oM).symm))))
def eD (op n sum:Int):Int:=if op=11 then 2*sum else if op=8/\n≠0 then sum*(if n<0 then 0-n else n) else sum
theorem HY (b:Bool)(c:Z9)(i j:Nat)(d:Z9)(a e:Nat)(w:World)(h:Hp)(g:G w h):CV 134 #[.agg #[.bool b,.slice c i j,.slice d a e]] w h (aY ⟨1,0,b,c,i,j,d,a,e,⟨#[]⟩,none,0,0⟩):=by
 have f:=sS g;exact go Tryz.func134 [(0,.agg #[.bool b,qS c i j,qS d a e])] rfl (aG (lA 1 42 ([.bool b,qS c i j,qS d a e]) f (fun k w2 y f=>lA 2 45 (ax ⟨0,0,false,none,0,0,none,0,0,⟨#[]⟩,none,0,0⟩) f (fun l x u f=>aE (lL f [.o (.agg #[.bool b,qS c i j,qS d a e]) 1 0 3,.v (aY ⟨1,0,b,c,i,j,d,a,e,⟨#[]⟩,none,0,0⟩)] (lP 0 0 (ax ⟨1,0,b,c,i,j,d,a,e,⟨#[]⟩,none,0,0⟩) f (fun p f=>af f [(0,0,7)] (aY ⟨1,0,b,c,i,j,d,a,e,⟨#[]⟩,none,0,0⟩) rfl)))))))
theorem Dh (op:Int)(a rb:RTm)(w:World)(h:Hp)(g:G w h):CR 28 #[iV op,aY a,aY rb] w h (fun v h1=>∃ b,v=aY ⟨op,0,false,none,0,0,none,0,0,⟨#[]⟩,sB b,2,2⟩/\SlO 7 ax bZ h1 (sB b) [a,rb]):=by
 have e:=sS g;refine go Tryz.func28 [(0,iV op),(1,aY a),(2,aY rb)] rfl (aG (lA 4 45 (ax a) e (fun k w2 y e=>lA 5 45 (ax rb) e (fun z j x e=>lA 6 45 (ax ⟨0,0,false,none,0,0,none,0,0,⟨#[]⟩,none,0,0⟩) e (fun p B u e=>aE (lL e [.c,.o (aY a) 2 0 7,.o (aY rb) 1 0 7] (lR 10 45 2 ([iV a.op,iV a.n,.bool a.neg,qS a.zA a.zn a.zc,qS a.dA a.dn a.dc,.string a.s,qS a.A a.m a.c,iV rb.op,iV rb.n,.bool rb.neg,qS rb.zA rb.zn rb.zc,qS rb.dA rb.dn rb.dc,.string rb.s,qS rb.A rb.m rb.c]) e (fun i _ _ e=>?_))))))));replace e:=e.aS (SlO.of_flat (sz:=7) (f:=ax) (d:=bZ) (b:=i) (o:=0) (l:=([(⟨a.op,a.n,a.neg,a.zA,a.zn,a.zc,a.dA,a.dn,a.dc,a.s,a.A,a.m,a.c⟩:RTm),(⟨rb.op,rb.n,rb.neg,rb.zA,rb.zn,rb.zc,rb.dA,rb.dn,rb.dc,rb.s,rb.A,rb.m,rb.c⟩:RTm)]:List RTm)) (fun _=>rfl) e.f.1);exact lL e [.v (aY ⟨op,0,false,none,0,0,none,0,0,⟨#[]⟩,sB i,2,2⟩)] (lP 0 0 (ax ⟨op,0,false,none,0,0,none,0,0,⟨#[]⟩,sB i,2,2⟩) e (fun _ e=>af e [(0,0,7)] (aY ⟨op,0,false,none,0,0,none,0,0,⟨#[]⟩,sB i,2,2⟩) (⟨_,rfl,e.f.1⟩)))
structure RecOk (nm:Int->ByteArray) (inp:Int) (d:Nat) (l:List Stp) (l2:List Stp) (n:Nat) (t:Tm):Prop where
  lq:(∀ i,LQ 1 (l.getD i ft).q)->∀ i,LQ 1 (l2.getD i ft).q
  dps:∀ dp,DpS dp l->∃ dp',DpS dp' l2/\(∀ k,k<l.length->dp' k=dp k)/\dp' (l2.length-1)<=d
  pre:∃ m,l2=l++m
  len:l2.length=l.length+n
  pos:0<n
  fm:∀ k,k<l2.length->oe inp k (l2.getD k ft)
  tr:∀ f,l2.length<=f->FL nm l2 f (l2.length-1)=t
structure AllOk (nm:Int->ByteArray) (inp:Int) (d:Nat) (ts:List Tm) (k:Nat) (l:List Stp) (os:List Int) (c:Nat):Prop where
  len:l.length=c
  fm:∀ k,k<l.length->oe inp k (l.getD k ft)
  lq:∀ i,LQ 1 (l.getD i ft).q
  dps:∃ dp,DpS dp l
  out:∀ j,j<k->0<=os.getD j 0/\os.getD j 0<(l.length:Nat)/\FL nm l (l.length+1) (os.getD j 0).toNat=ts.getD j cc
def IR (s:ByteArray):Prop:=s=⟨#[120]⟩\/s=⟨#[121]⟩\/s=⟨#[122]⟩
def IA:Nat->Tm->Prop
  | 0,_=>True
  | d+1,t=>-11<=t.n/\∀ i,i<t.ks.length->IA d (t.ks.getD i cc)
def Iu:Nat->Tm->Prop
  | 0,_=>True
  | d+1,t=>(ab t.q.num<100/\t.q.den<100)/\∀ i,i<t.ks.length->Iu d (t.ks.getD i cc)
def GrT (d:Nat)(t:Tm):Prop:=F4 IR d t/\3*d8 d t<=3^d/\IA d t/\Iu d t
theorem G5:ab (0:Rat).num<100/\(0:Rat).den<100:=by decide
theorem GrT.one {d:Nat}{op n:Int}{t:Tm}(x:GrT d t)(ha:fM op=1)(a:op≠8->n=0)(h1 : -3<=n)(b:n<=3):GrT (d+1) (.mk op n 0 ⟨#[]⟩ [t]):=by
 refine ⟨⟨ha,fun _=>rfl,FC kD,fun h=>?_,fun _=>rfl,a,by show (-12:Int)<=n;omega,by show n<=12;omega,fun i hi=>?_⟩,?_,⟨by show -11<=n;omega,fun i hi=>by
  have:i=0:=by have:i<1:=hi;omega
  subst this;exact x.2.2.1⟩,G5,fun i hi=>by
  have:i=0:=by have:i<1:=hi;omega
  subst this;exact x.2.2.2⟩
 ·have h:op=2:=h
  rw[h] at ha;exact absurd ha kD
 ·have:i=0:=by have:i<1:=hi;omega
  subst this;exact x.1
 ·show 3*((if op=11 then 2 else if op=8 then cY n else 1)*(0+d8 d t))<=3^(d+1)
  have hf:(if op=11 then 2 else if op=8 then cY n else 1)<=3:=by
   unfold cY
   repeat' split
   all_goals omega
  have:=Jo hf x.2.1;rw[z1,Nat.zero_add,Nat.mul_left_comm,z2 (3^d)];exact this
theorem GrT.two {d:Nat}{op:Int}{t u:Tm}(x:GrT d t)(y:GrT d u)(ha:fM op=2):GrT (d+1) (.mk op 0 0 ⟨#[]⟩ [t,u]):=by
 have b:op≠8:=fun h=>by rw[h] at ha;exact absurd ha kD
 have a:op≠11:=fun h=>by rw[h] at ha;exact absurd ha kD
 refine ⟨⟨ha,fun _=>rfl,FC kD,fun h=>?_,fun _=>rfl,fun _=>rfl,by show (-12:Int)<=0;decide,by show (0:Int)<=12;decide,fun i hi=>?_⟩,?_,⟨by show (-11:Int)<=0;decide,fun i hi=>by
  have:i=0\/i=1:=by have:i<2:=hi;omega
  rcases this with rfl|rfl
  ·exact x.2.2.1
  ·exact y.2.2.1⟩,G5,fun i hi=>by
  have:i=0\/i=1:=by have:i<2:=hi;omega
  rcases this with rfl|rfl
  ·exact x.2.2.2
  ·exact y.2.2.2⟩
 ·have h:op=2:=h
  rw[h] at ha;exact absurd ha kD
 ·have:i=0\/i=1:=by have:i<2:=hi;omega
  rcases this with rfl|rfl
  ·exact x.1
  ·exact y.1
 ·show 3*((if op=11 then 2 else if op=8 then cY 0 else 1)*(0+d8 d t+d8 d u))<=3^(d+1)
  rw[if_neg a,if_neg b,z1];have:=x.2.1;have:=y.2.1
  omega
section
variable {d:Nat}{h:Hp}
theorem nh:RZ h (false,.slice none 0 0,.slice none 0 0) 0:=⟨false,⟨none,0,none,0,rfl,eb _,eb _,SlO.nil,SlO.nil⟩,fun _=>rfl⟩
theorem EI {b:Bool}{c f:Z9}{k j a e:Nat}{q:Rat}(hz:RZ h (b,.slice c k j,.slice f a e) q):RmH (d+1) h ⟨1,0,b,c,k,j,f,a,e,⟨#[]⟩,none,0,0⟩ (.mk 1 0 q ⟨#[]⟩ []) :=
 ⟨rfl,rfl,hz,rfl,rfl,eb _,[],rfl,SlO.nil,fun i hi=>absurd hi (Ke i)⟩
theorem AX {s:ByteArray}:RmH (d+1) h ⟨2,0,false,none,0,0,none,0,0,s,none,0,0⟩ (.mk 2 0 0 s []) :=
 ⟨rfl,rfl,nh,rfl,rfl,eb _,[],rfl,SlO.nil,fun i hi=>absurd hi (Ke i)⟩
theorem qQ {op n:Int}{p:RTm}{t:Tm}{b:Nat}(x:RmH d h p t)(a:SlO 7 ax bZ h (some ⟨b,0,none⟩) [p]):RmH (d+1) h ⟨op,n,false,none,0,0,none,0,0,⟨#[]⟩,some ⟨b,0,none⟩,1,1⟩ (.mk op n 0 ⟨#[]⟩ [t]) :=
 ⟨rfl,rfl,nh,rfl,rfl,eb _,[p],rfl,a,fun i hi=>by
  have:i=0:=by have:i<1:=hi;omega
  subst this;exact x⟩
theorem Eb {op:Int}{p q:RTm}{t u:Tm}{b:Nat}(x:RmH d h p t)(y:RmH d h q u)(a:SlO 7 ax bZ h (some ⟨b,0,none⟩) [p,q]):RmH (d+1) h ⟨op,0,false,none,0,0,none,0,0,⟨#[]⟩,some ⟨b,0,none⟩,2,2⟩ (.mk op 0 0 ⟨#[]⟩ [t,u]) :=
 ⟨rfl,rfl,nh,rfl,rfl,eb _,[p,q],rfl,a,fun i hi=>by
  have:i=0\/i=1:=by have:i<2:=hi;omega
  rcases this with rfl|rfl
  ·exact x
  ·exact y⟩
end
def fJ (s:ByteArray):Prop:=s.size<=1000
theorem BJ:fJ ⟨#[]⟩:=by unfold fJ;decide
def D6 (Φ:Value->World->Hp->Prop):Ending->World->Prop:=fun e w'=>∃ v h',e=.returned v/\Φ v w' h'
section perm
variable {w0:World}{h0:Hp}{w:World}{h:Hp}{B B':List Bx}{R R':List Rw}{F:List (Hp->Prop)}
theorem SS.permBR (s:SS w0 h0 w h B R F)(pB:B.Perm B')(c:R.Perm R'):SS w0 h0 w h B' R' F :=
 ⟨s.g0,⟨s.st.up,fun x a=>s.st.own x (pB.mem_iff.2 a),fun x a=>s.st.jk x (pB.mem_iff.2 a),fun x a=>s.st.lo x (pB.mem_iff.2 a),((pB.map (·.b)).nodup_iff).1 s.st.nd⟩,
  fun r hr=>⟨(s.ro r (c.mem_iff.2 hr)).own,(s.ro r (c.mem_iff.2 hr)).jk,fun b e d=>(s.ro r (c.mem_iff.2 hr)).ap b e ((pB.map (·.b)).mem_iff.2 d)⟩,(c.pairwise_iff (fun h=>h.symm)).1 s.ap,s.mo,s.f⟩
end perm
section ret
variable {P:Program}{n:Nat}{Γ:ck}{w:World}{h:Hp}{w0:World}{h0:Hp}{B:List Bx}{Rs:List Rw}{F:List (Hp->Prop)}
theorem SS.retS {c:Func}{Φ:Value->World->Hp->Prop}(s:SS w0 h0 w h B Rs F)(ps:List (Nat × Nat × Nat))(v:Value)(d:Φ v w h)(b:(lE c Γ && bR B ps)=true:=by kernel_rfl)(f:bP P (me c Γ) (cf B ps)=some (v,bO B ps):=by kernel_rfl):∀ a,Kn n a Γ->li P c (D6 Φ) a w:=by
 intro a e;rw[hN] at b
 refine ⟨e.df.trans (kE b.1),v,?_,v,h,rfl,d⟩;rw[fI e b.1];exact bH _ _ _ _ f (bQ s.st.own ps b.2)
end ret
section call
variable {P:Program}{n:Nat}{N R:Po}{X:Nat->Po}{ops:Array Oper}{k:Nat}{Γ:ck}{w:World}
theorem Ht (t:Nat){f:FuncId}{args:Array Value}{Φ:Value->World->Hp->Prop}(c:Calls P f args w (D6 Φ))(H:∀ v w' a,Φ v w' a->LG P n N R X ops (k+1) ((t,v)::Γ) w')(d:cL ops Γ k t n=true:=by kernel_rfl)(hr:(execOp (ev Γ) (av ops k)).run P w=.ok (.enter f args) w:=by kernel_rfl):LG P n N R X ops k Γ w :=
 LG.call t f args (bS d).1 (bS d).2 hr (c.mono fun e w' ⟨v,a,h,b⟩=>⟨v,h,H v w' a b⟩)
end call
theorem pL (op:Int)(a:RTm)(w:World)(h:Hp)(g:G w h):CR 78 #[iV op,aY a] w h (fun v h1=>∃ b,v=aY ⟨op,0,false,none,0,0,none,0,0,⟨#[]⟩,sB b,1,1⟩/\SlO 7 ax bZ h1 (sB b) [a]):=by
 have e:=sS g;refine go Tryz.func78 [(0,iV op),(1,aY a)] rfl (aG (lA 3 45 (ax a) e (fun k w2 y e=>lA 4 45 (ax ⟨0,0,false,none,0,0,none,0,0,⟨#[]⟩,none,0,0⟩) e (fun j u p e=>aE (lL e [.c,.o (aY a) 1 0 7] (lR 7 45 1 ([iV a.op,iV a.n,.bool a.neg,qS a.zA a.zn a.zc,qS a.dA a.dn a.dc,.string a.s,qS a.A a.m a.c]) e (fun i z x e=>?_)))))));replace e:=e.aS (SlO.of_flat (sz:=7) (f:=ax) (d:=bZ) (b:=i) (o:=0) (l:=([(⟨a.op,a.n,a.neg,a.zA,a.zn,a.zc,a.dA,a.dn,a.dc,a.s,a.A,a.m,a.c⟩:RTm)]:List RTm)) (fun _=>rfl) e.f.1);exact lL e [.v (aY ⟨op,0,false,none,0,0,none,0,0,⟨#[]⟩,sB i,1,1⟩)] (lP 0 0 (ax ⟨op,0,false,none,0,0,none,0,0,⟨#[]⟩,sB i,1,1⟩) e (fun _ e=>af e [(0,0,7)] (aY ⟨op,0,false,none,0,0,none,0,0,⟨#[]⟩,sB i,1,1⟩) (⟨_,rfl,e.f.1⟩)))
theorem Hj (a:RTm)(i:Int)(w:World)(h:Hp)(g:G w h):CR 109 #[aY a,iV i] w h (fun v h1=>∃ b,v=aY ⟨8,i,false,none,0,0,none,0,0,⟨#[]⟩,sB b,1,1⟩/\SlO 7 ax bZ h1 (sB b) [a]):=by
 have e:=sS g;refine go Tryz.func109 [(0,aY a),(1,iV i)] rfl (aG (lA 2 45 (ax a) e (fun p w2 z e=>lA 4 45 (ax ⟨0,0,false,none,0,0,none,0,0,⟨#[]⟩,none,0,0⟩) e (fun k x u e=>aE (lL e [.c,.o (aY a) 1 0 7] (lR 7 45 1 ([iV a.op,iV a.n,.bool a.neg,qS a.zA a.zn a.zc,qS a.dA a.dn a.dc,.string a.s,qS a.A a.m a.c]) e (fun j B y e=>?_)))))));replace e:=e.aS (SlO.of_flat (sz:=7) (f:=ax) (d:=bZ) (b:=j) (o:=0) (l:=([(⟨a.op,a.n,a.neg,a.zA,a.zn,a.zc,a.dA,a.dn,a.dc,a.s,a.A,a.m,a.c⟩:RTm)]:List RTm)) (fun _=>rfl) e.f.1);exact lL e [.v (aY ⟨8,i,false,none,0,0,none,0,0,⟨#[]⟩,sB j,1,1⟩)] (lP 0 0 (ax ⟨8,i,false,none,0,0,none,0,0,⟨#[]⟩,sB j,1,1⟩) e (fun _ e=>af e [(0,0,7)] (aY ⟨8,i,false,none,0,0,none,0,0,⟨#[]⟩,sB j,1,1⟩) (⟨_,rfl,e.f.1⟩)))
section
variable {d:Nat}
theorem Im (b:Bool)(i:Z9)(j f:Nat)(c:Z9)(a k:Nat){q:Rat}(w:World)(h:Hp)(g:G w h)(hz:RZ h (b,.slice i j f,.slice c a k) q):CR 134 #[.agg #[.bool b,.slice i j f,.slice c a k]] w h (fun v h1=>∃ r,v=aY r/\RmH (d+1) h1 r (.mk 1 0 q ⟨#[]⟩ [])) :=
 (HY b i j f c a k w h g).mono fun e w' ⟨v,l,o,u,p⟩=>⟨v,l,o,u,_,p,EI (hz.gw u.gr.gw)⟩
theorem Fz (op:Int)(a rb:RTm)(t u:Tm)(w:World)(h:Hp)(g:G w h)(x:RmH d h a t)(y:RmH d h rb u):CR 28 #[iV op,aY a,aY rb] w h (fun v h1=>∃ r,v=aY r/\RmH (d+1) h1 r (.mk op 0 0 ⟨#[]⟩ [t,u])) :=
 (Dh op a rb w h g).mono fun e w' ⟨v,c,f,up,b,j,i⟩=>⟨v,c,f,up,_,j,Eb (x.gw up.gr.gw) (y.gw up.gr.gw) i⟩
theorem GP (op:Int)(a:RTm)(t:Tm)(w:World)(h:Hp)(g:G w h)(x:RmH d h a t):CR 78 #[iV op,aY a] w h (fun v h1=>∃ r,v=aY r/\RmH (d+1) h1 r (.mk op 0 0 ⟨#[]⟩ [t])) :=
 (pL op a w h g).mono fun e w' ⟨v,c,i,up,b,f,j⟩=>⟨v,c,i,up,_,f,qQ (x.gw up.gr.gw) j⟩
theorem GB (c:RTm)(t:Tm)(a:Int)(w:World)(h:Hp)(g:G w h)(x:RmH d h c t):CR 109 #[aY c,iV a] w h (fun v h1=>∃ r,v=aY r/\RmH (d+1) h1 r (.mk 8 a 0 ⟨#[]⟩ [t])) :=
 (Hj c a w h g).mono fun e w' ⟨v,f,j,up,b,i,k⟩=>⟨v,f,j,up,_,i,qQ (x.gw up.gr.gw) k⟩
end
def RtH (h:Hp)(r:RTm)(t:Tm):Prop:=∃ d,RmH d h r t
theorem RtH.gw {h a:Hp}{r:RTm}{t:Tm}(x:RtH h r t)(u:Gw h a):RtH a r t:=by
 obtain ⟨d,x⟩:=x;exact ⟨d,x.gw u⟩
theorem sD (op:Int)(a rb:RTm)(t u:Tm)(w:World)(h:Hp)(g:G w h)(x:RtH h a t)(y:RtH h rb u):CR 28 #[iV op,aY a,aY rb] w h (fun v h1=>∃ r,v=aY r/\RtH h1 r (bz op t u)):=by
 obtain ⟨d,x⟩:=x;obtain ⟨e,y⟩:=y;exact (Fz (d:=max d e) op a rb t u w h g (x.mono oM) (y.mono oM)).mono fun e w' ⟨v,b,c,up,r,i,f⟩=>⟨v,b,c,up,r,i,_,f⟩
theorem G9 (op:Int)(a:RTm)(t:Tm)(w:World)(h:Hp)(g:G w h)(x:RtH h a t):CR 78 #[iV op,aY a] w h (fun v h1=>∃ r,v=aY r/\RtH h1 r (fS op t)):=by
 obtain ⟨d,x⟩:=x;exact (GP (d:=d) op a t w h g x).mono fun e w' ⟨v,b,f,up,r,c,i⟩=>⟨v,b,f,up,r,c,_,i⟩
theorem Di (b:RTm)(t:Tm)(a:Int)(w:World)(h:Hp)(g:G w h)(x:RtH h b t):CR 109 #[aY b,iV a] w h (fun v h1=>∃ r,v=aY r/\RtH h1 r (.mk 8 a 0 ⟨#[]⟩ [t])):=by
 obtain ⟨d,x⟩:=x;exact (GB (d:=d) b t a w h g x).mono fun e w' ⟨v,c,i,up,r,f,j⟩=>⟨v,c,i,up,r,f,_,j⟩
theorem rr (op:Int)(a rb:RTm)(w:World)(h:Hp)(g:G w h):CR 28 #[iV op,aY a,aY rb] w h (fun v _=>∃ r,v=aY r) :=
 (Dh op a rb w h g).mono fun e w' ⟨v,c,f,up,b,d,_⟩=>⟨v,c,f,up,_,d⟩
theorem FU (op:Int)(a:RTm)(w:World)(h:Hp)(g:G w h):CR 78 #[iV op,aY a] w h (fun v h1=>∃ r,v=aY r) :=
 (pL op a w h g).mono fun e w' ⟨v,c,f,up,b,d,_⟩=>⟨v,c,f,up,_,d⟩
def Fx (rb:Nat)(s:ByteArray)(r:PR)(v:Value)(w':World)(h':Hp):Prop:=match r with
  | .ok t b=>∃ x:RTm,v=aY x/\b<=s.size/\Own w' rb 64 [.string s,.int .i64 (b:Nat),.int .i64 (-1)]/\RtH h' x t
  | .err b=>∃ x:RTm,v=aY x/\Own w' rb 64 [.string s,.int .i64 (s.size:Nat),.int .i64 (b:Nat)]
def RC (nf bf:ByteArray->Option Rat)(f:FuncId)(n:Nat)(k:PKd):Prop:=∀ (rb:Nat) (s:ByteArray),s.size<=1000000->∀ (a:Nat),a<=s.size->∀ (r:PR),bj nf bf s n k a=some r->∀ (w:World) (h:Hp),G w h->Own w rb 64 [.string s,nV a,iV (-1)]->h[rb]?=some junk->Tab h->Calls Tryz.prog f #[pB rb] w (bV rb w h (Fx rb s r))
def Bo (f:FuncId):Prop:=∀ (rb:Nat) (s:ByteArray),s.size<=1000000->∀ (b0:Nat) (w:World) (h:Hp),G w h->Own w rb 64 [.string s,nV s.size,nV b0]->h[rb]?=some junk->Tab h->Calls Tryz.prog f #[pB rb] w (bV rb w h fun v w' _=>∃ x:RTm,v=aY x/\Own w' rb 64 [.string s,nV s.size,nV b0])
theorem cJ {x:Option PR}{f:Tm->Nat->Option PR}{r:PR}(h:fW x f=some r):(∃ b,x=some (.err b)/\r=.err b)\/∃ t a,x=some (.ok t a)/\f t a=some r:=by
 match x,h with
 | some (.ok t a),h=>exact .inr ⟨t,a,rfl,h⟩
 | some (.err b),h=>injection h with h;exact .inl ⟨b,rfl,h.symm⟩
theorem mr  (rb:Nat)(s:ByteArray)(hsz:s.size<=1000000)(a:Nat)(ha:a<=s.size)(w:World)(h:Hp)(g:G w h)(ho:Own w rb 64 [.string s,nV a,iV (-1)])(hj:h[rb]?=some junk)(Y:Tab h):Calls Tryz.prog 14 #[pB rb] w (bV rb w h fun v w' _=>v=.int .u8 (aj s (sk s a):Nat)/\Own w' rb 64 [.string s,nV (sk s a),iV (-1)]):=by
 have d:UpM [rb] w h w h:=UpM.refl g;obtain ⟨wz,B,b⟩:=SS.at_ g ho hj;replace b:=(b.add (K:=fun z=>Tab z) Y);refine go Tryz.func14 [(0,pB rb)] rfl (aa b ac (ai (kZ ?_)));refine bG _ (CG.loop (fun V Γ X=>∃ (k:Nat)(z:Hp),V=s.size-k/\Γ=[(0,pB rb),(2,.int .u8 0)]/\SS wz B X z [⟨rb,64,[.string s,nV k,iV (-1)]⟩] [] [fun z=>Tab z]/\a<=k/\k<=s.size/\UpM [rb] w h X z/\(∀ i,a<=i->i<k->x7 (aj s i)=true)) _ ⟨a,h,rfl,rfl,b.to _ _,nR _,ha,d,(fun i h1 U=>absurd h1 oM)⟩ ?_);rintro _ _ w1 ⟨k,U,hm3,rfl,b,p,y,d,f⟩;refine cQ (cQ (cR 22 [] mixed b aw ?_));refine eV 0 3 (pB rb) (eV 1 4 (pB rb) (eV 2 5 (qP rb 1) (eO 3 6 [(0,1,1)] (nV k) b (eV 4 7 (pB rb) (eV 5 8 (pB rb) (eV 6 9 (pB rb) (eO 7 10 [(0,0,1)] (.string s) b (eV 8 11 (nV s.size) ?_))))))));cases u:(decide ((k:Int)<(s.size:Int)))
 .
  have C:=oF u;refine eB 9 12 u (eV 10 13 qF (eG 11 14 (eG 12 15 (eG 13 16 (eG 14 17 (eG 15 18 (eG 16 19 (eG 17 20 (eG 18 21 (eG 19 22 (eG 20 23 (eV 21 24 qF (bL b (fun w5 h6 Z b=>?_))))))))))))));replace d:=d.trans (Z.m _);refine tN (cV (CG.exit ?_))
  show CG _ _ _ _ _ _ _ _
  refine cQ (cQ (cR 10 [] mixed b aw ?_));refine eV 0 32 (pB rb) (eV 1 33 (pB rb) (eV 2 34 (qP rb 1) (eO 3 35 [(0,1,1)] (nV k) b (eV 4 36 (pB rb) (eV 5 37 (pB rb) (eV 6 38 (pB rb) (eO 7 39 [(0,0,1)] (.string s) b (eV 8 40 (nV s.size) ?_))))))));cases l:((k:Int) == (s.size:Int))
  .
   have D:=ao l;refine eB 9 41 l (bL b (fun w9 _ J b=>?_));replace d:=d.trans (J.m _);refine tN (cV (cK (cQ (cR 9 [] mixed b aw ?_))));refine eV 0 42 (pB rb) (eV 1 43 (pB rb) (eV 2 44 (pB rb) (eO 3 45 [(0,0,1)] (.string s) b (eV 4 46 (pB rb) (eV 5 47 (pB rb) (eV 6 48 (qP rb 1) (eO 7 49 [(0,1,1)] (nV k) b (eV 8 50 (.int .u8 (aj s k:Nat)) ?_ (hv:=fun _=>aR (tx:=9) (x:=.tmp 45) (i:=.tmp 49) (k:=.i64) (s:=s) (n:=k) (j:=(k:Int)) kR kR kR kR oM oM _)))))))));refine bL b (fun _ _ W b=>?_);replace d:=d.trans (W.m _);refine tV 9 2 (.int .u8 (aj s k:Nat)) (tN (bG [(2,.int .u8 (aj s k:Nat))] ?_));refine kX ?_;have e:sk s a=k:=dX p y f (by first|exact .inl oM|exact .inr (decide_eq_false oM));exact b.retM d [] (.int .u8 (aj s k:Nat)) (by rw[e];exact ⟨rfl,b.own 0⟩)
  have D:=eq_of_beq l;refine eB 9 41 l (bL b (fun _ _ O b=>?_));replace d:=d.trans (O.m _);refine tN (ci (aa b ac (lN (kX ?_))));have e:sk s a=k:=dX p y f (by first|exact .inl oM|exact .inr (decide_eq_false oM));exact b.retM d [] (.int .u8 0) (by rw[e,cw oM];exact ⟨rfl,b.own 0⟩)
 have C:=oT u;refine eB 9 12 u (eV 10 13 qT (eV 11 14 (pB rb) (eV 12 15 (pB rb) (eV 13 16 (pB rb) (eO 14 17 [(0,0,1)] (.string s) b (eV 15 18 (pB rb) (eV 16 19 (pB rb) (eV 17 20 (qP rb 1) (eO 18 21 [(0,1,1)] (nV k) b (eV 19 22 (.int .u8 (aj s k:Nat)) ?_ (hv:=fun _=>aR (tx:=9) (x:=.tmp 17) (i:=.tmp 21) (k:=.i64) (s:=s) (n:=k) (j:=(k:Int)) kR kR kR kR oM oM _)))))))))));cases H:(((aj s k:Nat):Int) == (32:Int))
 .
  have zc:=ao H;refine eB 20 23 H (eV 21 24 qF (bL b (fun _ _ Q b=>?_)));replace d:=d.trans (Q.m _);refine tN (cV (CG.exit ?_))
  show CG _ _ _ _ _ _ _ _
  refine cQ (cQ (cR 10 [] mixed b aw ?_));refine eV 0 32 (pB rb) (eV 1 33 (pB rb) (eV 2 34 (qP rb 1) (eO 3 35 [(0,1,1)] (nV k) b (eV 4 36 (pB rb) (eV 5 37 (pB rb) (eV 6 38 (pB rb) (eO 7 39 [(0,0,1)] (.string s) b (eV 8 40 (nV s.size) ?_))))))));cases F:((k:Int) == (s.size:Int))
  .
   have zd:=ao F;refine eB 9 41 F (bL b (fun _ _ S b=>?_));replace d:=d.trans (S.m _);refine tN (cV (cK (cQ (cR 9 [] mixed b aw ?_))));refine eV 0 42 (pB rb) (eV 1 43 (pB rb) (eV 2 44 (pB rb) (eO 3 45 [(0,0,1)] (.string s) b (eV 4 46 (pB rb) (eV 5 47 (pB rb) (eV 6 48 (qP rb 1) (eO 7 49 [(0,1,1)] (nV k) b (eV 8 50 (.int .u8 (aj s k:Nat)) ?_ (hv:=fun _=>aR (tx:=9) (x:=.tmp 45) (i:=.tmp 49) (k:=.i64) (s:=s) (n:=k) (j:=(k:Int)) kR kR kR kR oM oM _)))))))));refine bL b (fun _ _ I b=>?_);replace d:=d.trans (I.m _);refine tV 9 2 (.int .u8 (aj s k:Nat)) (tN (bG [(2,.int .u8 (aj s k:Nat))] ?_));refine kX ?_;have e:sk s a=k:=dX p y f (by first|exact .inl oM|exact .inr (decide_eq_false oM));exact b.retM d [] (.int .u8 (aj s k:Nat)) (by rw[e];exact ⟨rfl,b.own 0⟩)
  have zd:=eq_of_beq F;refine eB 9 41 F (bL b (fun _ _ M b=>?_));replace d:=d.trans (M.m _);refine tN (ci (aa b ac (lN (kX ?_))));have e:sk s a=k:=dX p y f (by first|exact .inl oM|exact .inr (decide_eq_false oM));exact b.retM d [] (.int .u8 0) (by rw[e,cw oM];exact ⟨rfl,b.own 0⟩)
 have zc:=eq_of_beq H;refine eB 20 23 H (eV 21 24 qT (bL b (fun _ ze L b=>?_)));replace d:=d.trans (L.m _);refine tN (ci (cK (kZ (kQ (lL b [.c,.v (pB rb),.v (qP rb 1),.o (nV k) 0 1 1] (bg 29 ((k:Nat)+1) (k+1) ?_))))));refine lL b [.v (pB rb),.v (qP rb 1)] (ce 0 1 ([nV (k+1)]) b (fun _ pu b=>?_));replace d:=d.put pu (o0.2 rfl) b.g;refine lD ?_;intro a_ ka;refine ⟨_,_,?_,⟨k+1,ze,rfl,rfl,b.to _ _,oM,oM,d,(fun i h1 U=>by rcases Kf.1 U with z|rfl;exact f i h1 z;exact decide_eq_true oM)⟩,ka.to _ kR⟩
 omega
theorem iK  (rb:Nat)(s:ByteArray)(F:s.size<=1000000)(a:Nat)(ha:a<=s.size)(c:Nat)(V:c≠0)(w:World)(h:Hp)(g:G w h)(U:Own w rb 64 [.string s,nV a,iV (-1)])(L:h[rb]?=some junk)(J:Tab h):Calls Tryz.prog 27 #[pB rb,.int .u8 (c:Nat)] w (bV rb w h fun v w' _=>(v=.bool true/\aj s (sk s a)=c/\sk s a<s.size/\Own w' rb 64 [.string s,nV (sk s a+1),iV (-1)])\/(v=.bool false/\aj s (sk s a)≠c/\Own w' rb 64 [.string s,nV (sk s a),iV (-1)])):=by
 have b:UpM [rb] w h w h:=UpM.refl g;obtain ⟨wz,I,d⟩:=SS.at_ g U L;replace d:=(d.add (K:=fun u=>Tab u) J);refine go Tryz.func27 [(0,pB rb),(1,.int .u8 (c:Nat))] rfl (aa d ac (ai (cQ (CG.region ⟨[rb],none⟩ 23 [] mixed kR d.g aw (fun _ Q=>by rw[o0.1 Q];exact aI (d.jk 0)) ?_))));refine eV 0 5 (pB rb) (eV 1 6 (pB rb) (eV 2 7 (qP rb 2) (Bt 3 8 [(0,2,1)] (iV (-1)) d b (fun w1 Y d b=>eV 4 9 qF (eV 5 10 qF (eV 6 11 (pB rb) (eV 8 13 (.int .u8 (c:Nat)) ?_)))))));have y:=bD (s:=s) (a:=a) oM;refine i0 7 12 d b (o0.2 rfl) (o0.2 rfl) (fun _ _ d=>mr rb s F a ha _ _ d.g (d.own 0) (d.jk 0) d.f.1) ?_;rintro _ _ _ W Z d S b ⟨rfl,k⟩;replace d:=(d.stepM 0 S k).to [⟨rb,64,[.string s,nV (sk s a),iV (-1)]⟩] [];cases i:(((aj s (sk s a):Nat):Int) != (c:Int))
 .
  have j:=az i;refine eB 9 14 i (eV 10 15 qF (eV 11 16 qF (eV 12 17 (pB rb) (eV 13 18 (pB rb) (eV 14 19 (qP rb 1) (eV 16 21 (pB rb) (eV 17 22 (pB rb) (eV 18 23 (pB rb) ?_))))))));refine F0 15 20 [(0,1,1)] (nV (sk s a)) 19 24 [(0,0,1)] (.string s) d b ?_ ?_
  .
   intro w8 X d b;refine Bt 19 24 [(0,0,1)] (.string s) d b (fun _ _ d b=>eV 20 25 (nV s.size) ?_);cases p:(((sk s a:Nat):Int) == (s.size:Int))
   .
    have O:=ao p;refine eB 21 26 p (eV 22 27 qF (bL d (fun _ _ D d=>?_)));replace b:=b.trans (D.m _);refine tN (cV (cK (aa d [.c,.v (pB rb),.v (qP rb 1),.o (nV (sk s a)) 0 1 1] (bg 32 ((sk s a:Nat)+1) ((sk s a)+1) ?_))));refine lL d [.v (pB rb),.v (qP rb 1)] (ce 0 1 ([nV ((sk s a)+1)]) d (fun _ C d=>?_));replace b:=b.put C (o0.2 rfl) d.g;refine aE (lL d ac (lN (kX ?_)));have e:=cp (s:=s) (a:=sk s a) oM;exact d.retM b [] qT (.inl ⟨rfl,by omega,by omega,d.own 0⟩)
   have O:=eq_of_beq p;refine eB 21 26 p (eV 22 27 qT (bL d (fun _ _ H d=>?_)));replace b:=b.trans (H.m _);exact tN (ci (aa d ac (lN (kX (d.retM b [] qF (.inr ⟨rfl,by first|omega|(intro u;have e:=cp (s:=s) (a:=sk s a) oM;omega),d.own 0⟩))))))
  intro _ _ d b;refine eV 20 25 (nV s.size) (Bt 15 20 [(0,1,1)] (nV (sk s a)) d b (fun _ _ d b=>?_));cases l:(((sk s a:Nat):Int) == (s.size:Int))
  .
   have M:=ao l;refine eB 21 26 l (eV 22 27 qF (bL d (fun _ _ x d=>?_)));replace b:=b.trans (x.m _);refine tN (cV (cK (aa d [.c,.v (pB rb),.v (qP rb 1),.o (nV (sk s a)) 0 1 1] (bg 32 ((sk s a:Nat)+1) ((sk s a)+1) ?_))));refine lL d [.v (pB rb),.v (qP rb 1)] (ce 0 1 ([nV ((sk s a)+1)]) d (fun _ C d=>?_));replace b:=b.put C (o0.2 rfl) d.g;refine aE (lL d ac (lN (kX ?_)));have e:=cp (s:=s) (a:=sk s a) oM;exact d.retM b [] qT (.inl ⟨rfl,by omega,by omega,d.own 0⟩)
  have M:=eq_of_beq l;refine eB 21 26 l (eV 22 27 qT (bL d (fun _ _ B d=>?_)));replace b:=b.trans (B.m _);exact tN (ci (aa d ac (lN (kX (d.retM b [] qF (.inr ⟨rfl,by first|omega|(intro u;have e:=cp (s:=s) (a:=sk s a) oM;omega),d.own 0⟩))))))
 have j:=a7 i;refine eB 9 14 i (eV 10 15 qT (eV 11 16 qT (eG 12 17 (eG 13 18 (eG 14 19 (eG 15 20 (eG 16 21 (eG 17 22 (eG 18 23 (eG 19 24 (eG 20 25 (eG 21 26 (eV 22 27 qT (bL d (fun _ _ z d=>?_)))))))))))))));replace b:=b.trans (z.m _);exact tN (ci (aa d ac (lN (kX (d.retM b [] qF (.inr ⟨rfl,by first|omega|(intro u;have e:=cp (s:=s) (a:=sk s a) oM;omega),d.own 0⟩))))))
theorem dK  (rb:Nat)(s:ByteArray)(u:s.size<=1000000)(d:Nat)(c:Nat)(w:World)(h:Hp)(g:G w h)(y:Own w rb 64 [.string s,nV s.size,nV d])(k:h[rb]?=some junk)(j:Tab h):Calls Tryz.prog 27 #[pB rb,.int .u8 (c:Nat)] w (bV rb w h fun v w' _=>v=.bool false/\Own w' rb 64 [.string s,nV s.size,nV d]):=by
 have b:UpM [rb] w h w h:=UpM.refl g;obtain ⟨wz,f,a⟩:=SS.at_ g y k;replace a:=(a.add (K:=fun x=>Tab x) j);refine go Tryz.func27 [(0,pB rb),(1,.int .u8 (c:Nat))] rfl (aa a ac (ai (cQ (CG.region ⟨[rb],none⟩ 23 [] mixed kR a.g aw (fun _ l=>by rw[o0.1 l];exact aI (a.jk 0)) ?_))));refine eV 0 5 (pB rb) (eV 1 6 (pB rb) (eV 2 7 (qP rb 2) (Bt 3 8 [(0,2,1)] (nV d) a b (fun w1 B a b=>?_))));have ⟨e,i⟩:=dT (p:=(0:Int)<=(d:Int)) oM;refine eB 4 9 e (eV 5 10 qT (eG 6 11 (eG 7 12 (eG 8 13 (eG 9 14 (eV 10 15 qT (eV 11 16 qT (eG 12 17 (eG 13 18 (eG 14 19 (eG 15 20 (eG 16 21 (eG 17 22 (eG 18 23 (eG 19 24 (eG 20 25 (eG 21 26 (eV 22 27 qT (bL a (fun z C o a=>?_))))))))))))))))))));replace b:=b.trans (o.m _);exact tN (ci (aa a ac (lN (kX (a.retM b [] qF (⟨rfl,a.own 0⟩))))))
theorem m9 (rb:Nat)(s:ByteArray)(d:s.size<=1000000)(a:Nat)(ha:a<=s.size)(c:Nat)(j:c≠0)(b:sk s a=a)(w:World)(h:Hp)(g:G w h)(i:Own w rb 64 [.string s,nV a,iV (-1)])(f:h[rb]?=some junk)(e:Tab h):Calls Tryz.prog 27 #[pB rb,.int .u8 (c:Nat)] w (bV rb w h fun v w' _=>(v=.bool true/\aj s a=c/\a<s.size/\Own w' rb 64 [.string s,nV (a+1),iV (-1)])\/(v=.bool false/\aj s a≠c/\Own w' rb 64 [.string s,nV a,iV (-1)])):=by
 have q:=iK rb s d a ha c j w h g i f e;rw[b] at q;exact q
end Go.Proofs.YtbbhdbhkaacnnaaGreatDoor
