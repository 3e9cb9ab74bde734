/- Laws of this claim, part 4. -/
import Derived.Test.YtffiihfdjnmhpaaGreatDoorQn0
import Derived.Test.YtffiihfdjnmhpaaGreatDoorQn1
import Derived.Test.YtffiihfdjnmhpaaGreatDoorQn2
set_option maxRecDepth 100000
set_option maxHeartbeats 4000000
namespace Go.Proofs.YtffiihfdjnmhpaaGreatDoor
open _root_.Array renaming getElem?_eq_some_iff -> g3, getElem?_push_size -> e0, getElem?_setIfInBounds_ne -> g6, getElem?_setIfInBounds_self_of_lt -> u9
open Bool renaming and_eq_true -> hI, noConfusion -> Kp, not_not -> Km
open Int renaming emod_lt_of_pos -> Kg, emod_nonneg -> Kf, lt_or_le -> Kh, lt_trichotomy -> J5, mul_ediv_cancel_left -> J4, mul_neg_of_neg_of_pos -> Kd, mul_pos -> Ke, natAbs_mul -> J2, natAbs_natCast -> J3, sign_eq_neg_one_of_neg -> J6, sign_eq_one_of_pos -> J7, sign_eq_zero_iff_zero -> Ko, tmod_eq_emod_of_nonneg -> Ki
open List renaming all_eq_true -> hS, getD_eq_getElem?_getD -> A6, getElem?_eq_none -> o1, mem_map -> ga, mem_singleton -> n1, replicate -> ta
open Nat renaming div_le_self -> y7, eq_zero_or_pos -> va, gcd -> JK, gcd_le_right -> Kc, le_mul_of_pos_left -> J9, le_refl -> eb, le_trans -> ed, lt_or_ge -> co, lt_succ_iff_lt_or_eq -> Kl, min_eq_right -> Ja, mul_comm -> zz, mul_le_mul -> Jq, not_lt_zero -> Kk, pow_le_pow_right -> Aa, pow_succ -> zy, zero_le -> JH
open Rat renaming den_intCast -> Kb, num_eq_zero -> Kj, num_intCast -> Ka
open Go.RowKit
open Go.RowKit Go.Shelf
theorem pg (z:Int)(b:Nat)(d:(b:Int)∣z):bD (decide (z.sign<0)) (ab z/b)=z/b:=by
 obtain ⟨k,rfl⟩:=d
 rcases va b with hb|hb
 ·subst hb;simp[bD,ab]
 have a:ab ((b:Int)*k)/b=k.natAbs:=by
  unfold ab
  rw[J2,J3,Nat.mul_div_cancel_left _ hb]
 have e:((b:Int)*k)/b=k:=J4 _ oM;have c:((b:Int)*k).sign=k.sign:=by rw[Int.sign_mul,Int.sign_natCast_of_ne_zero oM,Int.one_mul]
 rw[a,e,c]
 unfold bD
 rcases J5 k 0 with h|h|h
 ·rw[J6 h];simp;omega
 ·subst h;simp
 ·rw[J7 h];simp;omega
theorem gV (n:Int)(d:Nat)(b:0<d):(mkRat n d).num=n/(JK (ab n) d:Nat)/\(mkRat n d).den=d/JK (ab n) d/\((JK (ab n) d:Nat):Int)∣n/\0<JK (ab n) d:=by
 have a:((JK (ab n) d:Nat):Int)∣n:=by
  have h1:JK (ab n) d∣n.natAbs:=Nat.gcd_dvd_left _ _;exact Int.dvd_trans (Int.natCast_dvd_natCast.2 h1) (Int.natAbs_dvd.2 (Int.dvd_refl _))
 unfold mkRat
 rw[dif_neg oM,Rat.normalize_eq];exact ⟨rfl,rfl,a,Nat.gcd_pos_of_pos_right _ b⟩
def LQ (k:Nat)(q:Rat):Prop:=(wds (ab q.num)).length<=k/\(wds q.den).length<=k
theorem nN (n:Nat)(w:World)(h:Hp)(g:G w h):CV 187 #[.bool false,nv n] w h (iv (n:Int)):=vg n w h g
theorem Hc (x y:Int)(d:Nat)(e:d=JK (ab x) (ab y))(a:(wds (ab x)).length<=1000000000)(b:(wds (ab y)).length<=1000000000)(w:World)(h:Hp)(g:G w h)(c:Tab h):CV 221 #[iv x,iv y] w h (nv d):=by
 subst e;exact HN x y a b w h g c
theorem wV {n:Nat}:nb n=1↔n=1:=by
 rcases va n with h|h
 ·subst h;simp[nb]
 ·have h1:=cl h
  constructor
  ·intro e;rw[e] at h1;omega
  ·intro e;subst e;rfl
theorem j3 {n:Nat}:nb n=0↔n=0:=by
 rcases l7 n with ⟨h1,h2⟩|⟨h1,h2⟩<;>omega
theorem om {q:Rat}(h:q.den=1):qd q=0:=by unfold qd;rw[if_pos h]
theorem C8 {q:Rat}(h:q.den≠1):qd q=q.den:=by unfold qd;rw[if_neg h]
theorem Bd {q:Rat}:qd q=0↔q.den=1:=by
 unfold qd
 have:=q.den_pos
 split<;>omega
theorem I3 (q:Rat):(((nb (qd q):Nat):Int) == (0:Int))=decide (q.den=1):=by
 rw[Bool.eq_iff_iff]
 simp only[beq_iff_eq,decide_eq_true_eq]
 rw[<-Bd,<-j3]
 omega
theorem lj {q:Rat}{z:Int}{d:Nat}(hz:q.num=z)(a:qd q=d):Value.agg #[.bool (au z),.int .u64 (lo (ab z)),.string (hi (ab z)),.int .u64 (lo d),.string (hi d)]=qv q:=by subst hz a;rfl
theorem LQ.qd {k:Nat}{q:Rat}(h:LQ k q):(wds (qd q)).length<=k:=by
 unfold Go.Proofs.YtffiihfdjnmhpaaGreatDoor.qd
 split
 ·exact JH _
 ·exact h.2
theorem GS (a:Rat)(ha:LQ 1000000000 a)(w:World)(h:Hp)(g:G w h):CV 222 #[iv a.num,nv a.den] w h (qv a):=by
 have b:=sS g;obtain ⟨j,e⟩:=ha;have i:=@wV a.den;refine go Tryz.func222 [(0,iv a.num),(1,nv a.den)] rfl (aG (lA 2 28 (ic a.num) b (fun k w2 y b=>lA 3 26 (nc a.den) b (fun p x u b=>lA 4 30 a1 b (fun z l B b=>ai (aa b [.o (nv a.den) 1 0 2] (aq 6 b (eE a.den ia _ _ b.g) (fun _ _ b=>?_))))))));cases c:(((nb a.den:Nat):Int) == (1:Int))
 .
  have f:=ao c;exact lB 7 c (ah (cK (aa b [.o (iv a.num) 2 0 3,.o (nv a.den) 1 0 2,.v (.agg #[.bool (au a.num),uV (lo (ab a.num)),.string (hi (ab a.num)),uV (lo a.den),.string (hi a.den)])] (lP 0 0 ([.bool (au a.num),uV (lo (ab a.num)),.string (hi (ab a.num)),uV (lo a.den),.string (hi a.den)]) b (fun _ b=>af b [(0,0,5)] (.agg #[.bool (au a.num),uV (lo (ab a.num)),.string (hi (ab a.num)),uV (lo a.den),.string (hi a.den)]) (lj (q:=a) (d:=a.den) rfl (C8 oM)))))))
 have f:=eq_of_beq c;exact lB 7 c (aj (aa b [.o (iv a.num) 2 0 3,.v (.agg #[.bool (au a.num),uV (lo (ab a.num)),.string (hi (ab a.num)),uV 0,eS])] (lP 0 0 ([.bool (au a.num),uV (lo (ab a.num)),.string (hi (ab a.num)),uV 0,eS]) b (fun _ b=>af b [(0,0,5)] (.agg #[.bool (au a.num),uV (lo (ab a.num)),.string (hi (ab a.num)),uV 0,eS]) (lj (q:=a) (d:=0) rfl (om oM))))))
theorem DR (q:Rat)(z:Int)(d:Nat)(hz:q.num=z)(a:d=q.den)(b:LQ 1000000000 q)(w:World)(h:Hp)(g:G w h):CV 222 #[iv z,nv d] w h (qv q):=by
 subst hz a;exact GS q b w h g
theorem py (z:Int)(g:Nat)(a:(g:Int)∣z):ab (z/g)<=ab z:=by
 unfold ab
 rcases va g with h|h
 ·subst h;simp
 ·obtain ⟨k,rfl⟩:=a
  rw[J4 _ oM,J2,J3];exact J9 _ h
theorem Dv (a b:Nat)(B:0<b)(l:(wds a).length<=1000000000)(f:(wds b).length<=1000000000)(w:World)(h:Hp)(g:G w h):CV 224 #[nv a,nv b] w h (nv (a/b)):=by
 have d:=sS g;have j:=@wV b;refine go Tryz.func224 [(0,nv a),(1,nv b)] rfl (aG (lA 2 26 (nc a) d (fun u w2 D d=>lA 3 26 (nc b) d (fun y C z d=>lA 4 26 ([uV 0,eS]) d (fun F x H d=>ai (aa d [.o (nv b) 1 0 2] (aq 9 d (eE b ia _ _ d.g) (fun _ _ d=>?_))))))));cases e:(((nb b:Nat):Int) == (1:Int))
 .
  have i:=ao e;exact lB 10 e (ah (cK (aa d [.o (nv a) 2 0 2,.o (nv b) 1 0 2] (aq 15 d (F6 a b oM aM aM _ _ d.g) (fun _ _ d=>lL d [.c,.v (nv (a/b)),.v (nv (a%b)),.v qT] (lA 5 26 ([uV 0,eS]) d (fun p _ _ d=>lA 6 26 ([uV 0,eS]) d (fun k _ _ d=>lP 1 0 (nc (a/b)) d (fun _ d=>lP 0 0 (nc (a%b)) d (fun _ d=>lL d ac (aE (lL d [.o (nv (a/b)) 1 0 2] (lP 2 0 (nc (a/b)) d (fun _ d=>af d [(2,0,2)] (nv (a/b)) rfl))))))))))))))
 have i:=eq_of_beq e;exact lB 10 e (aj (aa d [.o (nv a) 2 0 2] (lP 0 0 (nc a) d (fun _ d=>af d [(0,0,2)] (nv a) (by rw[show b=1 by omega,Nat.div_one])))))
theorem GN (z:Int)(b:Nat)(o:0<b)(f:(b:Int)∣z)(c:(wds (ab z)).length<=1000000000)(d:(wds b).length<=1000000000)(w:World)(h:Hp)(g:G w h):CV 223 #[iv z,nv b] w h (iv (z/b)):=by
 have a:=sS g;have e:(wds (ab z/b)).length<=1000000000:=cp (y7 _ _) c;refine go Tryz.func223 [(0,iv z),(1,nv b)] rfl (aG (lA 2 28 (ic z) a (fun i w2 u a=>lA 3 26 (nc b) a (fun k p l a=>lA 4 28 ([qF,uV 0,eS]) a (fun x j y a=>ai (cR 8 [] mixed a aw ?_))))));exact eO 0 5 [(2,0,3)] (iv z) a (eO 3 8 [(2,0,3)] (iv z) a (eO 5 10 [(1,0,2)] (nv b) a (aK 1 6 a (fun _ _ a=>mp z ia _ _ a.g) (fun _ _ a=>eV 2 7 (.bool (decide (((z).sign:Int)<(0:Int)))) (aK 4 9 a (fun _ _ a=>DO z _ _ a.g) (fun _ _ a=>aK 6 11 a (fun _ _ a=>Dv (ab z) b aM ia ia _ _ a.g) (fun _ _ a=>aK 7 12 a (fun _ _ a=>gF (decide (((z).sign:Int)<(0:Int))) ((ab z)/b) ia _ _ a.g) (fun _ _ a=>cG a (fun _ _ a=>tP 8 0 0 (ic (bD (decide (((z).sign:Int)<(0:Int))) ((ab z)/b))) a (fun _ a=>tN (kX (a.ret [(0,0,3)] (iv (bD (decide (((z).sign:Int)<(0:Int))) ((ab z)/b))) (congrArg iv (pg z b f))))))))))))))
theorem m9 (z:Int)(d:Nat)(i:(wds (ab z)).length+(wds d).length<=1000000000)(w:World)(h:Hp)(g:G w h):CV 156 #[iv z,nv d] w h (iv (z*d)):=by
 have a:=sS g;refine go Tryz.func156 [(0,iv z),(1,nv d)] rfl (aG (lA 2 28 (ic z) a (fun f w2 c a=>lA 3 26 (nc d) a (fun b j k a=>lA 4 28 ([qF,uV 0,eS]) a (fun e l o a=>ai (cR 4 [] mixed a aw ?_))))));exact eO 0 5 [(2,0,3)] (iv z) a (eO 1 6 [(1,0,2)] (nv d) a (aK 2 7 a (fun _ _ a=>nN d _ _ a.g) (fun _ _ a=>aK 3 8 a (fun _ _ a=>HQ z (d:Int) ia _ _ a.g) (fun _ _ a=>cG a (fun _ _ a=>tP 4 0 0 (ic (z*(d:Int))) a (fun _ a=>tN (kX (a.ret [(0,0,3)] (iv (z*(d:Int))) rfl))))))))
theorem gY (a:Rat)(ha:LQ 100000000 a)(w:World)(h:Hp)(g:G w h):CV 85 #[qv a] w h (.bool (decide (a.den=1))):=by
 have b:=sS g;have e:=ha.qd;exact go Tryz.func85 [(0,qv a)] rfl (aG (lA 1 30 (qc a) b (fun d w2 f b=>lL b ac (aE (lL b [.v (qP d 3),.o (nv (qd a)) 0 3 2] (aq 5 b (eE (qd a) ia _ _ b.g) (fun j i b=>lL b [.v (.bool (((nb (qd a):Nat):Int) == (0:Int))),.c] (af b [] (.bool (((nb (qd a):Nat):Int) == (0:Int))) (congrArg Value.bool (I3 a))))))))))
theorem vM (a:Rat)(ha:LQ 100000000 a)(w:World)(h:Hp)(g:G w h):CV 78 #[qv a] w h (nv a.den):=by
 have b:=sS g;refine go Tryz.func78 [(0,qv a)] rfl (aG (lA 1 30 (qc a) b (fun e w2 j b=>lA 2 26 ([uV 0,eS]) b (fun i k l b=>ai (aa b [.o (qv a) 1 0 5] (aq 4 b (gY a aM _ _ b.g) (fun p f b=>?_)))))));cases c:(decide (a.den=1))
 .
  have d:=oF c;exact ah (cK (aa b [.v (qP e 3),.o (nv (qd a)) 1 3 2] (lP 0 0 (nc (qd a)) b (fun _ b=>af b [(0,0,2)] (nv (qd a)) (by rw[C8 (by simpa using (by assumption:decide (a.den=1)=false))])))))
 have d:=oT c;exact aj (aG (aq 5 b (Er 1 oM _ _ b.g) (fun _ _ b=>lP 0 0 (nc 1) b (fun _ b=>af b [(0,0,2)] (nv 1) (by rw[show a.den=1 by simpa using (by assumption:decide (a.den=1)=true)])))))
theorem H9 (a:Rat)(w:World)(h:Hp)(g:G w h):CV 76 #[qv a] w h (iv a.num):=by
 have b:=sS g;exact go Tryz.func76 [(0,qv a)] rfl (aG (lA 1 30 (qc a) b (fun c w2 e b=>lA 2 28 ([qF,uV 0,eS]) b (fun d f i b=>aE (lL b [.v (pB c),.o (iv a.num) 1 0 3] (lP 0 0 (ic a.num) b (fun j b=>af b [(0,0,3)] (iv a.num) rfl)))))))
theorem mM (a:Rat)(ha:LQ 100000000 a)(w:World)(h:Hp)(g:G w h):CV 53 #[qv a] w h (iV a.num.sign):=by
 have b:=sS g;obtain ⟨d,e⟩:=ha;exact go Tryz.func53 [(0,qv a)] rfl (aG (lA 1 30 (qc a) b (fun c w2 f b=>lL b ac (aE (lL b [.v (pB c),.o (iv a.num) 0 0 3] (aq 5 b (mp a.num ia _ _ b.g) (fun j i b=>lL b ac (af b [] (iV ((a.num).sign)) rfl))))))))
theorem IA (z:Int)(h0 : -9223372036854775808<=z)(h1:z<=9223372036854775807)(w:World)(h:Hp)(g:G w h):CV 91 #[iV z] w h (qv (z:Rat)):=by
 have a:=sS g;exact go Tryz.func91 [(0,iV z)] rfl (aG (lA 2 30 a1 a (fun c w2 b a=>aE (lL a ac (aq 4 a (IV z oM oM _ _ a.g) (fun f i a=>lL a [.v (.agg #[.bool (au z),uV (lo (ab z)),.string (hi (ab z)),uV 0,eS])] (lP 0 0 ([.bool (au z),uV (lo (ab z)),.string (hi (ab z)),uV 0,eS]) a (fun e a=>af a [(0,0,5)] (.agg #[.bool (au z),uV (lo (ab z)),.string (hi (ab z)),uV 0,eS]) (lj (d:=0) (Ka z) (om (Kb z)))))))))))
theorem i5 (z:Int)(d:Nat)(o:0<d)(k:(wds (ab z)).length<=1000000000)(i:(wds d).length<=1000000000)(w:World)(h:Hp)(g:G w h)(x:Tab h):CV 193 #[iv z,nv d] w h (qv (mkRat z d)):=by
 have a:=((sS g).add (K:=fun y=>Tab y) x);obtain ⟨b,c,e,j⟩:=gV z d o;obtain ⟨q,hq⟩:∃ q,q=JK (ab z) d:=⟨_,rfl⟩;rw[<-hq] at b c e j
 have B:(wds q).length<=1000000000:=cp (by rw[hq];exact Kc _ o) i;have p:LQ 1000000000 (mkRat z d):=⟨by rw[b];exact cp (py z q e) k,by rw[c];exact cp (y7 _ _) i⟩;refine go Tryz.func193 [(0,iv z),(1,nv d)] rfl (aG (lA 2 28 (ic z) a (fun C w2 J a=>lA 3 26 (nc d) a (fun F I H a=>lA 4 30 a1 a (fun L D M a=>ai ?_)))));have l:=a;refine cR 5 [⟨4,5,.cells (List.toArray [uV 0,eS]) 26 (0,0)⟩] mixed a (dz (lu kR (fun _ _=>by kernel_rfl)) aw) (eO 0 6 [(2,0,3)] (iv z) a (eO 1 7 [(1,0,2)] (nv d) a (aK 2 8 a (fun _ _ a=>nN d _ _ a.g) (fun _ _ a=>aK 3 9 a (fun _ _ a=>Hc z (d:Int) q (by first|assumption|exact hq) ia (show (wds d).length<=1000000000 by first|assumption|omega) _ _ a.g a.f.1) (fun _ _ a=>Gh [] l a 26 [uV 0,eS] (fun _ _ u a=>tP 5 0 0 (nc q) a (fun _ a=>tN (cQ (cR 7 [] mixed a aw ?_)))))))));exact eO 0 10 [(3,0,3)] (iv z) a (eO 1 11 [(0,0,2)] (nv q) a (eO 3 13 [(2,0,2)] (nv d) a (eO 4 14 [(0,0,2)] (nv q) a (aK 2 12 a (fun _ _ a=>GN z q aM aM ia ia _ _ a.g) (fun _ _ a=>aK 5 15 a (fun _ _ a=>Dv d q aM ia ia _ _ a.g) (fun _ _ a=>aK 6 16 a (fun _ _ a=>DR (mkRat z d) (z/(q:Int)) (d/q) (by first|assumption|exact b|exact (b).symm) (by first|assumption|exact c.symm) aM _ _ a.g) (fun _ _ a=>cG a (fun _ _ a=>tP 7 1 0 (qc (mkRat z d)) a (fun _ a=>tN (kX (a.ret [(1,0,5)] (qv (mkRat z d)) rfl)))))))))))
theorem jY (a:Rat)(ha:LQ 100000000 a)(h1:a.den=1)(w:World)(h:Hp)(g:G w h):CV 85 #[qv a] w h (.bool true):=by
 have:=gY a ha w h g;rwa [decide_eq_true h1] at this
theorem mK (a:Rat)(ha:LQ 100000000 a)(h1:a.den≠1)(w:World)(h:Hp)(g:G w h):CV 85 #[qv a] w h (.bool false):=by
 have:=gY a ha w h g;rwa [decide_eq_false h1] at this
theorem tZ (x y:Int):(wds (ab (x*y))).length<=(wds (ab x)).length+(wds (ab y)).length:=by
 have:ab (x*y)=ab x*ab y:=J2 x y;rw[this];exact kf
theorem fU (x:Int)(d:Nat):(wds (ab (x*((d:Nat):Int)))).length<=(wds (ab x)).length+(wds d).length:=tZ x (d:Int)
theorem LQ.mono {k l:Nat}{a:Rat}(h:LQ k a)(b:k<=l):LQ l a:=⟨ed h.1 b,ed h.2 b⟩
def fr (a b:Rat):Int:=dQ (a.num*b.den) (b.num*a.den)
theorem fi {a b:Rat}(h1:a.den=1)(c:b.den=1):dQ a.num b.num=fr a b:=by unfold fr;rw[h1,c];simp
theorem fX {a b:Rat}(h:(a.num.sign != b.num.sign)=true):dQ a.num b.num=fr a b:=by
 have h:a.num.sign≠b.num.sign:=by simpa using h
 have ha:=a.den_pos;have e:=b.den_pos
 unfold fr dQ
 rcases J5 a.num 0 with p|p|p<;>rcases J5 b.num 0 with q|q|q
 ·exact absurd (by rw[J6 p,J6 q]) h
 ·have:a.num*(b.den:Int)<0:=Kd p oM
  rw[q];simp;rw[if_pos p,if_pos this]
 ·have d:a.num*(b.den:Int)<0:=Kd p oM
  have c:0<b.num*(a.den:Int):=Ke q oM;rw[if_pos oM,if_pos oM]
 ·have:b.num*(a.den:Int)<0:=Kd q oM
  rw[p];simp;rw[if_neg oM,if_pos q,if_neg oM,if_pos this]
 ·exact absurd (by rw[p,q]) h
 ·have:0<b.num*(a.den:Int):=Ke q oM
  rw[p];simp;rw[if_pos q,if_pos this]
 ·have d:0<a.num*(b.den:Int):=Ke p oM
  have c:b.num*(a.den:Int)<0:=Kd q oM;rw[if_neg oM,if_pos oM,if_neg oM,if_pos oM]
 ·have:0<a.num*(b.den:Int):=Ke p oM
  rw[q];simp;rw[if_neg oM,if_pos p,if_neg oM,if_pos this]
 ·exact absurd (by rw[J7 p,J7 q]) h
theorem DF (a b:Rat)(ha:LQ 100000000 a)(B:LQ 100000000 b)(f:a.den=1)(d:b.den=1)(w:World)(h:Hp)(g:G w h):CV 120 #[qv a,qv b] w h (iV (fr a b)):=by
 have c:=sS g;have e:=ha;have i:=B;obtain ⟨z,l⟩:=e;obtain ⟨y,j⟩:=i;have x:=fU a.num b.den;have u:=fU b.num a.den;refine go Tryz.func120 [(0,qv a),(1,qv b)] rfl (aG (lA 2 30 (qc a) c (fun k w2 I c=>lA 3 30 (qc b) c (fun p F C c=>lL c ac (ai (cQ (cR 13 [] mixed c aw ?_)))))));exact eO 0 5 [(1,0,5)] (qv a) c (aK 1 6 c (fun _ _ c=>jY a aM aM _ _ c.g) (fun J H c=>eV 2 7 qT (eO 3 8 [(0,0,5)] (qv b) c (aK 4 9 c (fun _ _ c=>jY b aM aM _ _ c.g) (fun D _ c=>eV 5 10 qT (eV 6 11 qT (eG 7 12 (eG 8 13 (eG 9 14 (eG 10 15 (eG 11 16 (eV 12 17 qT (cG c (fun _ _ c=>tN (ci (aa c [.v (pB k),.o (iv a.num) 1 0 3,.v (pB p),.o (iv b.num) 0 0 3] (aq 22 c (xc a.num b.num ia ia _ _ c.g) (fun _ _ c=>lL c ac (af c [] (iV (dQ a.num b.num)) (congrArg (Value.int .i64) (by first|rfl|exact fi f d|exact fX ‹_›)))))))))))))))))))))
theorem EV (a b:Rat)(ha:LQ 100000000 a)(C:LQ 100000000 b)(d:a.den≠1)(w:World)(h:Hp)(g:G w h):CV 120 #[qv a,qv b] w h (iV (fr a b)):=by
 have c:=sS g;have f:=ha;have i:=C;obtain ⟨B,p⟩:=f;obtain ⟨z,l⟩:=i;have y:=fU a.num b.den;have x:=fU b.num a.den;refine go Tryz.func120 [(0,qv a),(1,qv b)] rfl (aG (lA 2 30 (qc a) c (fun j w2 J c=>lA 3 30 (qc b) c (fun k H D c=>lL c ac (ai (cQ (cR 13 [] mixed c aw ?_)))))));refine eO 0 5 [(1,0,5)] (qv a) c (aK 1 6 c (fun _ _ c=>mK a aM aM _ _ c.g) (fun K I c=>eV 2 7 qF (eG 3 8 (eG 4 9 (eV 5 10 qF (eV 6 11 qF (eO 7 12 [(1,0,5)] (qv a) c (eO 9 14 [(0,0,5)] (qv b) c (aK 8 13 c (fun _ _ c=>mM a aM _ _ c.g) (fun F _ c=>aK 10 15 c (fun _ _ c=>mM b aM _ _ c.g) (fun _ _ c=>?_)))))))))));cases e:(((a.num).sign:Int) != ((b.num).sign:Int))
 .
  have u:=ay e;refine eB 11 16 e (eV 12 17 qF (cG c (fun _ _ c=>tN (da (cK (cQ (cR 11 [] mixed c aw ?_)))))));exact eV 0 23 (pB j) (eO 1 24 [(1,0,3)] (iv a.num) c (eO 2 25 [(0,0,5)] (qv b) c (eV 5 28 (pB k) (eO 6 29 [(0,0,3)] (iv b.num) c (eO 7 30 [(1,0,5)] (qv a) c (aK 3 26 c (fun _ _ c=>vM b aM _ _ c.g) (fun _ _ c=>aK 4 27 c (fun _ _ c=>m9 a.num b.den ia _ _ c.g) (fun _ _ c=>aK 8 31 c (fun _ _ c=>vM a aM _ _ c.g) (fun _ _ c=>aK 9 32 c (fun _ _ c=>m9 b.num a.den ia _ _ c.g) (fun _ _ c=>aK 10 33 c (fun _ _ c=>xc (a.num*(b.den:Int)) (b.num*(a.den:Int)) ia ia _ _ c.g) (fun _ _ c=>cG c (fun _ _ c=>tV 11 4 (iV (dQ (a.num*(b.den:Int)) (b.num*(a.den:Int)))) (tN (kX (c.ret [] (iV (dQ (a.num*(b.den:Int)) (b.num*(a.den:Int)))) (congrArg (Value.int .i64) (by first|rfl|exact fi d hwb|exact fX ‹_›)))))))))))))))))
 have u:=a6 e;exact eB 11 16 e (eV 12 17 qT (cG c (fun _ _ c=>tN (ci (aa c [.v (pB j),.o (iv a.num) 1 0 3,.v (pB k),.o (iv b.num) 0 0 3] (aq 22 c (xc a.num b.num ia ia _ _ c.g) (fun _ _ c=>lL c ac (af c [] (iV (dQ a.num b.num)) (congrArg (Value.int .i64) (by first|rfl|exact fi d hwb|exact fX ‹_›))))))))))
theorem DG (a b:Rat)(ha:LQ 100000000 a)(D:LQ 100000000 b)(e:a.den=1)(d:b.den≠1)(w:World)(h:Hp)(g:G w h):CV 120 #[qv a,qv b] w h (iV (fr a b)):=by
 have c:=sS g;have i:=ha;have j:=D;obtain ⟨C,u⟩:=i;obtain ⟨B,p⟩:=j;have z:=fU a.num b.den;have y:=fU b.num a.den;refine go Tryz.func120 [(0,qv a),(1,qv b)] rfl (aG (lA 2 30 (qc a) c (fun k w2 K c=>lA 3 30 (qc b) c (fun l I F c=>lL c ac (ai (cQ (cR 13 [] mixed c aw ?_)))))));refine eO 0 5 [(1,0,5)] (qv a) c (aK 1 6 c (fun _ _ c=>jY a aM aM _ _ c.g) (fun L J c=>eV 2 7 qT (eO 3 8 [(0,0,5)] (qv b) c (aK 4 9 c (fun _ _ c=>mK b aM aM _ _ c.g) (fun H _ c=>eV 5 10 qF (eV 6 11 qF (eO 7 12 [(1,0,5)] (qv a) c (eO 9 14 [(0,0,5)] (qv b) c (aK 8 13 c (fun _ _ c=>mM a aM _ _ c.g) (fun _ _ c=>aK 10 15 c (fun _ _ c=>mM b aM _ _ c.g) (fun _ _ c=>?_)))))))))));cases f:(((a.num).sign:Int) != ((b.num).sign:Int))
 .
  have x:=ay f;refine eB 11 16 f (eV 12 17 qF (cG c (fun _ _ c=>tN (da (cK (cQ (cR 11 [] mixed c aw ?_)))))));exact eV 0 23 (pB k) (eO 1 24 [(1,0,3)] (iv a.num) c (eO 2 25 [(0,0,5)] (qv b) c (eV 5 28 (pB l) (eO 6 29 [(0,0,3)] (iv b.num) c (eO 7 30 [(1,0,5)] (qv a) c (aK 3 26 c (fun _ _ c=>vM b aM _ _ c.g) (fun _ _ c=>aK 4 27 c (fun _ _ c=>m9 a.num b.den ia _ _ c.g) (fun _ _ c=>aK 8 31 c (fun _ _ c=>vM a aM _ _ c.g) (fun _ _ c=>aK 9 32 c (fun _ _ c=>m9 b.num a.den ia _ _ c.g) (fun _ _ c=>aK 10 33 c (fun _ _ c=>xc (a.num*(b.den:Int)) (b.num*(a.den:Int)) ia ia _ _ c.g) (fun _ _ c=>cG c (fun _ _ c=>tV 11 4 (iV (dQ (a.num*(b.den:Int)) (b.num*(a.den:Int)))) (tN (kX (c.ret [] (iV (dQ (a.num*(b.den:Int)) (b.num*(a.den:Int)))) (congrArg (Value.int .i64) (by first|rfl|exact fi e d|exact fX ‹_›)))))))))))))))))
 have x:=a6 f;exact eB 11 16 f (eV 12 17 qT (cG c (fun _ _ c=>tN (ci (aa c [.v (pB k),.o (iv a.num) 1 0 3,.v (pB l),.o (iv b.num) 0 0 3] (aq 22 c (xc a.num b.num ia ia _ _ c.g) (fun _ _ c=>lL c ac (af c [] (iV (dQ a.num b.num)) (congrArg (Value.int .i64) (by first|rfl|exact fi e d|exact fX ‹_›))))))))))
theorem HU (a b:Rat)(ha:LQ 100000000 a)(c:LQ 100000000 b)(w:World)(h:Hp)(g:G w h):CV 120 #[qv a,qv b] w h (iV (fr a b)):=by
 by_cases h1:a.den=1
 ·by_cases h2:b.den=1
  ·exact DF a b ha c h1 h2 w h g
  ·exact DG a b ha c h1 h2 w h g
 ·exact EV a b ha c h1 w h g
def og (n d:Int):Rat:=mkRat (if d<0 then -n else n) (ab d)
theorem Fh (n d:Int)(z:0<d)(u:(wds (ab n)).length<=1000000000)(i:(wds (ab d)).length<=1000000000)(w:World)(h:Hp)(g:G w h)(l:Tab h):CV 189 #[iv n,iv d] w h (.tuple #[qv (og n d),.bool true]):=by
 have a:=((sS g).add (K:=fun x=>Tab x) l);have y:=J7 z;have k:0<ab d:=by unfold ab;omega
 refine go Tryz.func189 [(0,iv n),(1,iv d)] rfl (aG (lA 2 28 (ic n) a (fun B w2 I a=>lA 3 28 (ic d) a (fun D H F a=>lA 4 30 a1 a (fun J C L a=>lL a ac (ai (aa a [.o (iv d) 1 0 3] (aq 7 a (mp d ia _ _ a.g) (fun _ _ a=>?_)))))))));have e:(((d).sign:Int) == (0:Int))=false:=gI oM;have c:=ao e;refine lB 8 e (ah (cK (cQ (aa a [.o (iv d) 1 0 3] (aq 11 a (mp d ia _ _ a.g) (fun _ _ a=>?_))))));have ⟨j,b⟩:=dF (p:=((d).sign:Int)<(0:Int)) oM;refine lB 12 j (ah (cK (cQ (cR 4 [] mixed a aw ?_))));exact eO 0 15 [(2,0,3)] (iv n) a (eO 1 16 [(1,0,3)] (iv d) a (aK 2 17 a (fun _ _ a=>DO d _ _ a.g) (fun _ _ a=>aK 3 18 a (fun _ _ a=>i5 n (ab d) ia ia ia _ _ a.g a.f.1) (fun _ _ a=>cG a (fun _ _ a=>tP 4 0 0 (qc (mkRat n (ab d))) a (fun _ a=>tV 5 5 qT (tN (kX (a.ret [(0,0,5)] (.tuple #[qv (mkRat n (ab d)),qT]) (by unfold og;rw[if_neg oM]))))))))))
theorem DV (n:Int)(e:(wds (ab (0:Int))).length<=1000000000)(w:World)(h:Hp)(g:G w h):CV 189 #[iv n,iv (0:Int)] w h (.tuple #[qv 0,.bool false]):=by
 have a:=sS g;have d:(0:Int).sign=0:=rfl;refine go Tryz.func189 [(0,iv n),(1,iv (0:Int))] rfl (aG (lA 2 28 (ic n) a (fun k w2 i a=>lA 3 28 (ic (0:Int)) a (fun f l p a=>lA 4 30 a1 a (fun j u x a=>lL a ac (ai (aa a [.o (iv (0:Int)) 1 0 3] (aq 7 a (mp (0:Int) ia _ _ a.g) (fun _ _ a=>?_)))))))));have c:((((0:Int)).sign:Int) == (0:Int))=true:=ko oM;have b:=eq_of_beq c;exact lB 8 c (aj (aa a [.v ca] (lP 0 0 a1 a (fun _ a=>lL a ac (af a [(0,0,5)] (.tuple #[.agg #[qF,uV 0,eS,uV 0,eS],qF]) rfl)))))
theorem si (x:Int)(A:Z9)(c:Nat)(k:(lim (ab x)).length<=c)(J:(lim (ab x)).length<=2000000000)(y:Int)(D:Z9)(d:Nat)(F:(lim (ab y)).length<=d)(p:(lim (ab y)).length<=2000000000)(w:World)(h:Hp)(g:G w h)(o:S3 A (lim (ab x)) h)(z:S3 D (lim (ab y)) h):CR 73 #[.agg #[.bool (au x),.slice A ((lim (ab x)).length) c],.agg #[.bool (au y),.slice D ((lim (ab y)).length) d]] w h (fun v h1=>RI h1 v (x*y)):=by
 have a:=(((sS g).aS o).aS z);refine go Tryz.func73 [(0,.agg #[.bool (au x),qS A ((lim (ab x)).length) c]),(1,.agg #[.bool (au y),qS D ((lim (ab y)).length) d])] rfl (aG (lA 2 42 ([.bool (au x),qS A ((lim (ab x)).length) c]) a (fun b w2 O a=>lA 3 42 ([.bool (au y),qS D ((lim (ab y)).length) d]) a (fun e M L a=>lA 4 42 ([qF,sZ]) a (fun Q K S a=>ai (cR 11 [] mixed a aw ?_))))));refine eV 0 5 (pB b) (eO 1 6 [(2,0,1)] (.bool (au x)) a (eV 2 7 (pB e) (eO 3 8 [(1,0,1)] (.bool (au y)) a (eV 4 9 (.bool ((au x) != (au y))) (eV 5 10 (qP b 1) (eO 6 11 [(2,1,1)] (qS A ((lim (ab x)).length) c) a (eV 7 12 (qP e 1) (eO 8 13 [(1,1,1)] (qS D ((lim (ab y)).length) d) a (eC 9 14 a (fun _ _ a=>i7 (ab x) A c k (ab y) D d F oM oM _ _ a.g a.f.2.1 a.f.1) ?_)))))))));rintro _ _ _ _ _ a ⟨l,B,rfl,u,I⟩;replace a:=a.aS I;refine eC 10 15 a (fun _ _ a=>rI ((au x) != (au y)) ((ab x)*(ab y)) l B u _ _ a.g a.f.1) ?_;rintro _ _ _ _ _ a ⟨j,i,rfl,C,H⟩;replace a:=a.aS H;exact cG a (fun _ _ a=>tP 11 0 0 ([.bool (au (bD ((au x) != (au y)) ((ab x)*(ab y)))),qS j ((lim (ab (bD ((au x) != (au y)) ((ab x)*(ab y))))).length) i]) a (fun _ a=>tN (kX (a.ret [(0,0,2)] (.agg #[.bool (au (bD ((au x) != (au y)) ((ab x)*(ab y)))),qS j ((lim (ab (bD ((au x) != (au y)) ((ab x)*(ab y))))).length) i]) (by rw[<-mc x y];exact ⟨_,_,rfl,C,a.f.1⟩)))))
theorem vW (x:Int)(A:Z9)(c:Nat)(j:(lim (ab x)).length<=c)(u:(lim (ab x)).length<=2000000000)(k:au x=false)(w:World)(h:Hp)(g:G w h)(l:S3 A (lim (ab x)) h):CR 122 #[.agg #[.bool false,.slice A ((lim (ab x)).length) c]] w h (fun v h1=>RI h1 v (-x)):=by
 have a:=((sS g).aS l);refine go Tryz.func122 [(0,.agg #[qF,qS A ((lim (ab x)).length) c])] rfl (aG (lA 1 42 ([qF,qS A ((lim (ab x)).length) c]) a (fun d w2 C a=>lA 2 42 ([qF,sZ]) a (fun y B z a=>aE (lL a [.v (pB d),.o qF 1 0 1,.v qT,.v (qP d 1),.o (qS A ((lim (ab x)).length) c) 1 1 1] (lC 8 a (rI true (ab x) A c j _ _ a.g a.f.1) ?_))))));rintro _ _ _ a ⟨i,e,rfl,b,p⟩;replace a:=a.aS p;exact lP 0 0 ([.bool (au (bD true (ab x))),qS i ((lim (ab (bD true (ab x)))).length) e]) a (fun _ a=>af a [(0,0,2)] (.agg #[.bool (au (bD true (ab x))),qS i ((lim (ab (bD true (ab x)))).length) e]) (by rw[<-rZ x,k];exact ⟨_,_,rfl,b,a.f.1⟩))
theorem vq (x:Int)(A:Z9)(c:Nat)(j:(lim (ab x)).length<=c)(u:(lim (ab x)).length<=2000000000)(k:au x=true)(w:World)(h:Hp)(g:G w h)(l:S3 A (lim (ab x)) h):CR 122 #[.agg #[.bool true,.slice A ((lim (ab x)).length) c]] w h (fun v h1=>RI h1 v (-x)):=by
 have a:=((sS g).aS l);refine go Tryz.func122 [(0,.agg #[qT,qS A ((lim (ab x)).length) c])] rfl (aG (lA 1 42 ([qT,qS A ((lim (ab x)).length) c]) a (fun d w2 C a=>lA 2 42 ([qF,sZ]) a (fun y B z a=>aE (lL a [.v (pB d),.o qT 1 0 1,.v qF,.v (qP d 1),.o (qS A ((lim (ab x)).length) c) 1 1 1] (lC 8 a (rI false (ab x) A c j _ _ a.g a.f.1) ?_))))));rintro _ _ _ a ⟨i,e,rfl,b,p⟩;replace a:=a.aS p;exact lP 0 0 ([.bool (au (bD false (ab x))),qS i ((lim (ab (bD false (ab x)))).length) e]) a (fun _ a=>af a [(0,0,2)] (.agg #[.bool (au (bD false (ab x))),qS i ((lim (ab (bD false (ab x)))).length) e]) (by rw[<-rZ x,k];exact ⟨_,_,rfl,b,a.f.1⟩))
theorem AZ (x:Int)(A:Z9)(c:Nat)(d:(lim (ab x)).length<=c)(a:(lim (ab x)).length<=2000000000)(w:World)(h:Hp)(g:G w h)(b:S3 A (lim (ab x)) h):CR 122 #[.agg #[.bool (au x),.slice A (lim (ab x)).length c]] w h (fun v h1=>RI h1 v (-x)):=by
 rcases hx:au x with _|_
 ·exact vW x A c d a hx w h g b
 ·exact vq x A c d a hx w h g b
theorem uf (x:Int)(A:Z9)(c:Nat)(l:(lim (ab x)).length<=c)(Q:(lim (ab x)).length<=2000000000)(y:Int)(D:Z9)(d:Nat)(J:(lim (ab y)).length<=d)(B:(lim (ab y)).length<=2000000000)(p:au x=false)(L:au y=false)(w:World)(h:Hp)(g:G w h)(z:S3 A (lim (ab x)) h)(F:S3 D (lim (ab y)) h):CR 121 #[.agg #[.bool false,.slice A ((lim (ab x)).length) c],.agg #[.bool false,.slice D ((lim (ab y)).length) d]] w h (fun v h1=>RI h1 v (x+y)):=by
 have a:=(((sS g).aS z).aS F);have M:=bK p;have k:=bK L;refine go Tryz.func121 [(0,.agg #[qF,qS A ((lim (ab x)).length) c]),(1,.agg #[qF,qS D ((lim (ab y)).length) d])] rfl (aG (lA 2 42 ([qF,qS A ((lim (ab x)).length) c]) a (fun b w2 W a=>lA 3 42 ([qF,qS D ((lim (ab y)).length) d]) a (fun e V U a=>lA 4 42 ([qF,sZ]) a (fun X S Y a=>ai (aa a [.v (pB b),.o qF 2 0 1,.v (pB e),.o qF 1 0 1,.v qT] (aj (cQ (cR 8 [] mixed a aw ?_)))))))));refine eV 0 10 (pB b) (eO 1 11 [(2,0,1)] qF a (eV 2 12 (qP b 1) (eO 3 13 [(2,1,1)] (qS A ((lim (ab x)).length) c) a (eV 4 14 (qP e 1) (eO 5 15 [(1,1,1)] (qS D ((lim (ab y)).length) d) a (eC 6 16 a (fun _ _ a=>iw (ab x) A c l (ab y) D d J oM oM _ _ a.g a.f.2.1 a.f.1) ?_))))));rintro _ _ _ _ _ a ⟨u,H,rfl,C,O⟩;replace a:=a.aS O;refine eC 7 17 a (fun _ _ a=>rI false ((ab x)+(ab y)) u H C _ _ a.g a.f.1) ?_;rintro _ _ _ _ _ a ⟨j,i,rfl,I,K⟩;replace a:=a.aS K;exact cG a (fun _ _ a=>tP 8 0 0 ([.bool (au (bD false ((ab x)+(ab y)))),qS j ((lim (ab (bD false ((ab x)+(ab y))))).length) i]) a (fun _ a=>tN (kX (a.ret [(0,0,2)] (.agg #[.bool (au (bD false ((ab x)+(ab y)))),qS j ((lim (ab (bD false ((ab x)+(ab y))))).length) i]) (by rw[show x+y=(bD false ((ab x)+(ab y))) by unfold bD ab at *;simp;omega];exact ⟨_,_,rfl,I,a.f.1⟩)))))
theorem tz (x:Int)(A:Z9)(c:Nat)(j:(lim (ab x)).length<=c)(hLx:(lim (ab x)).length<=2000000000)(y:Int)(D:Z9)(d:Nat)(k:(lim (ab y)).length<=d)(O:(lim (ab y)).length<=2000000000)(H:au x=false)(hy:au y=true)(w:World)(h:Hp)(g:G w h)(J:S3 A (lim (ab x)) h)(Q:S3 D (lim (ab y)) h):CR 121 #[.agg #[.bool false,.slice A ((lim (ab x)).length) c],.agg #[.bool true,.slice D ((lim (ab y)).length) d]] w h (fun v h1=>RI h1 v (x+y)):=by
 have a:=(((sS g).aS J).aS Q);have hx_:=bK H;have B:=bT hy;refine go Tryz.func121 [(0,.agg #[qF,qS A ((lim (ab x)).length) c]),(1,.agg #[qT,qS D ((lim (ab y)).length) d])] rfl (aG (lA 2 42 ([qF,qS A ((lim (ab x)).length) c]) a (fun b w2 h3 a=>lA 3 42 ([qT,qS D ((lim (ab y)).length) d]) a (fun e w5 h6 a=>lA 4 42 ([qF,sZ]) a (fun b7 w8 h9 a=>ai (aa a [.v (pB b),.o qF 2 0 1,.v (pB e),.o qT 1 0 1,.v qF] (ah (cK (cQ (aa a [.v (qP b 1),.o (qS A ((lim (ab x)).length) c) 2 1 1,.v (qP e 1),.o (qS D ((lim (ab y)).length) d) 1 1 1] (aq 22 a (jp (ab x) A c j (ab y) D d k oM oM _ _ a.g a.f.2.1 a.f.1) (fun _ _ a=>?_))))))))))));have Y:=gm (ab x) (ab y);cases i:(decide ((0:Int)<=(cY (ab x) (ab y):Int)))
 .
  have L:=oF i;refine lB 23 i (ah (cK (cQ (cR 8 [] mixed a aw ?_))));refine eV 0 32 (pB e) (eO 1 33 [(1,0,1)] qT a (eV 2 34 (qP e 1) (eO 3 35 [(1,1,1)] (qS D ((lim (ab y)).length) d) a (eV 4 36 (qP b 1) (eO 5 37 [(2,1,1)] (qS A ((lim (ab x)).length) c) a (eC 6 38 a (fun _ _ a=>kE (ab y) D d k (ab x) A c j oM oM oM _ _ a.g a.f.1 a.f.2.1) ?_))))));rintro _ _ _ _ _ a ⟨Z,F,rfl,I,S⟩;replace a:=a.aS S;refine eC 7 39 a (fun _ _ a=>rI true ((ab y)-(ab x)) Z F I _ _ a.g a.f.1) ?_;rintro _ _ _ _ _ a ⟨l,z,rfl,M,V⟩;replace a:=a.aS V;exact cG a (fun _ _ a=>tP 8 0 0 ([.bool (au (bD true ((ab y)-(ab x)))),qS l ((lim (ab (bD true ((ab y)-(ab x))))).length) z]) a (fun _ a=>tN (kX (a.ret [(0,0,2)] (.agg #[.bool (au (bD true ((ab y)-(ab x)))),qS l ((lim (ab (bD true ((ab y)-(ab x))))).length) z]) (by rw[show x+y=(bD true ((ab y)-(ab x))) by unfold bD ab at *;simp;omega];exact ⟨_,_,rfl,M,a.f.1⟩)))))
 have L:=oT i;refine lB 23 i (aj (cQ (cR 8 [] mixed a aw ?_)));refine eV 0 24 (pB b) (eO 1 25 [(2,0,1)] qF a (eV 2 26 (qP b 1) (eO 3 27 [(2,1,1)] (qS A ((lim (ab x)).length) c) a (eV 4 28 (qP e 1) (eO 5 29 [(1,1,1)] (qS D ((lim (ab y)).length) d) a (eC 6 30 a (fun _ _ a=>kE (ab x) A c j (ab y) D d k oM oM oM _ _ a.g a.f.2.1 a.f.1) ?_))))));rintro _ _ _ _ _ a ⟨C,W,rfl,U,K⟩;replace a:=a.aS K;refine eC 7 31 a (fun _ _ a=>rI false ((ab x)-(ab y)) C W U _ _ a.g a.f.1) ?_;rintro _ _ _ _ _ a ⟨p,u,rfl,zn,X⟩;replace a:=a.aS X;exact cG a (fun _ _ a=>tP 8 0 0 ([.bool (au (bD false ((ab x)-(ab y)))),qS p ((lim (ab (bD false ((ab x)-(ab y))))).length) u]) a (fun _ a=>tN (kX (a.ret [(0,0,2)] (.agg #[.bool (au (bD false ((ab x)-(ab y)))),qS p ((lim (ab (bD false ((ab x)-(ab y))))).length) u]) (by rw[show x+y=(bD false ((ab x)-(ab y))) by unfold bD ab at *;simp;omega];exact ⟨_,_,rfl,zn,a.f.1⟩)))))
theorem uB (x:Int)(A:Z9)(c:Nat)(j:(lim (ab x)).length<=c)(hLx:(lim (ab x)).length<=2000000000)(y:Int)(D:Z9)(d:Nat)(k:(lim (ab y)).length<=d)(O:(lim (ab y)).length<=2000000000)(H:au x=true)(hy:au y=false)(w:World)(h:Hp)(g:G w h)(J:S3 A (lim (ab x)) h)(Q:S3 D (lim (ab y)) h):CR 121 #[.agg #[.bool true,.slice A ((lim (ab x)).length) c],.agg #[.bool false,.slice D ((lim (ab y)).length) d]] w h (fun v h1=>RI h1 v (x+y)):=by
 have a:=(((sS g).aS J).aS Q);have hx_:=bT H;have B:=bK hy;refine go Tryz.func121 [(0,.agg #[qT,qS A ((lim (ab x)).length) c]),(1,.agg #[qF,qS D ((lim (ab y)).length) d])] rfl (aG (lA 2 42 ([qT,qS A ((lim (ab x)).length) c]) a (fun b w2 h3 a=>lA 3 42 ([qF,qS D ((lim (ab y)).length) d]) a (fun e w5 h6 a=>lA 4 42 ([qF,sZ]) a (fun b7 w8 h9 a=>ai (aa a [.v (pB b),.o qT 2 0 1,.v (pB e),.o qF 1 0 1,.v qF] (ah (cK (cQ (aa a [.v (qP b 1),.o (qS A ((lim (ab x)).length) c) 2 1 1,.v (qP e 1),.o (qS D ((lim (ab y)).length) d) 1 1 1] (aq 22 a (jp (ab x) A c j (ab y) D d k oM oM _ _ a.g a.f.2.1 a.f.1) (fun _ _ a=>?_))))))))))));have Y:=gm (ab x) (ab y);cases i:(decide ((0:Int)<=(cY (ab x) (ab y):Int)))
 .
  have L:=oF i;refine lB 23 i (ah (cK (cQ (cR 8 [] mixed a aw ?_))));refine eV 0 32 (pB e) (eO 1 33 [(1,0,1)] qF a (eV 2 34 (qP e 1) (eO 3 35 [(1,1,1)] (qS D ((lim (ab y)).length) d) a (eV 4 36 (qP b 1) (eO 5 37 [(2,1,1)] (qS A ((lim (ab x)).length) c) a (eC 6 38 a (fun _ _ a=>kE (ab y) D d k (ab x) A c j oM oM oM _ _ a.g a.f.1 a.f.2.1) ?_))))));rintro _ _ _ _ _ a ⟨Z,F,rfl,I,S⟩;replace a:=a.aS S;refine eC 7 39 a (fun _ _ a=>rI false ((ab y)-(ab x)) Z F I _ _ a.g a.f.1) ?_;rintro _ _ _ _ _ a ⟨l,z,rfl,M,V⟩;replace a:=a.aS V;exact cG a (fun _ _ a=>tP 8 0 0 ([.bool (au (bD false ((ab y)-(ab x)))),qS l ((lim (ab (bD false ((ab y)-(ab x))))).length) z]) a (fun _ a=>tN (kX (a.ret [(0,0,2)] (.agg #[.bool (au (bD false ((ab y)-(ab x)))),qS l ((lim (ab (bD false ((ab y)-(ab x))))).length) z]) (by rw[show x+y=(bD false ((ab y)-(ab x))) by unfold bD ab at *;simp;omega];exact ⟨_,_,rfl,M,a.f.1⟩)))))
 have L:=oT i;refine lB 23 i (aj (cQ (cR 8 [] mixed a aw ?_)));refine eV 0 24 (pB b) (eO 1 25 [(2,0,1)] qT a (eV 2 26 (qP b 1) (eO 3 27 [(2,1,1)] (qS A ((lim (ab x)).length) c) a (eV 4 28 (qP e 1) (eO 5 29 [(1,1,1)] (qS D ((lim (ab y)).length) d) a (eC 6 30 a (fun _ _ a=>kE (ab x) A c j (ab y) D d k oM oM oM _ _ a.g a.f.2.1 a.f.1) ?_))))));rintro _ _ _ _ _ a ⟨C,W,rfl,U,K⟩;replace a:=a.aS K;refine eC 7 31 a (fun _ _ a=>rI true ((ab x)-(ab y)) C W U _ _ a.g a.f.1) ?_;rintro _ _ _ _ _ a ⟨p,u,rfl,zn,X⟩;replace a:=a.aS X;exact cG a (fun _ _ a=>tP 8 0 0 ([.bool (au (bD true ((ab x)-(ab y)))),qS p ((lim (ab (bD true ((ab x)-(ab y))))).length) u]) a (fun _ a=>tN (kX (a.ret [(0,0,2)] (.agg #[.bool (au (bD true ((ab x)-(ab y)))),qS p ((lim (ab (bD true ((ab x)-(ab y))))).length) u]) (by rw[show x+y=(bD true ((ab x)-(ab y))) by unfold bD ab at *;simp;omega];exact ⟨_,_,rfl,zn,a.f.1⟩)))))
theorem uA (x:Int)(A:Z9)(c:Nat)(l:(lim (ab x)).length<=c)(Q:(lim (ab x)).length<=2000000000)(y:Int)(D:Z9)(d:Nat)(J:(lim (ab y)).length<=d)(B:(lim (ab y)).length<=2000000000)(p:au x=true)(L:au y=true)(w:World)(h:Hp)(g:G w h)(z:S3 A (lim (ab x)) h)(F:S3 D (lim (ab y)) h):CR 121 #[.agg #[.bool true,.slice A ((lim (ab x)).length) c],.agg #[.bool true,.slice D ((lim (ab y)).length) d]] w h (fun v h1=>RI h1 v (x+y)):=by
 have a:=(((sS g).aS z).aS F);have M:=bT p;have k:=bT L;refine go Tryz.func121 [(0,.agg #[qT,qS A ((lim (ab x)).length) c]),(1,.agg #[qT,qS D ((lim (ab y)).length) d])] rfl (aG (lA 2 42 ([qT,qS A ((lim (ab x)).length) c]) a (fun b w2 W a=>lA 3 42 ([qT,qS D ((lim (ab y)).length) d]) a (fun e V U a=>lA 4 42 ([qF,sZ]) a (fun X S Y a=>ai (aa a [.v (pB b),.o qT 2 0 1,.v (pB e),.o qT 1 0 1,.v qT] (aj (cQ (cR 8 [] mixed a aw ?_)))))))));refine eV 0 10 (pB b) (eO 1 11 [(2,0,1)] qT a (eV 2 12 (qP b 1) (eO 3 13 [(2,1,1)] (qS A ((lim (ab x)).length) c) a (eV 4 14 (qP e 1) (eO 5 15 [(1,1,1)] (qS D ((lim (ab y)).length) d) a (eC 6 16 a (fun _ _ a=>iw (ab x) A c l (ab y) D d J oM oM _ _ a.g a.f.2.1 a.f.1) ?_))))));rintro _ _ _ _ _ a ⟨u,H,rfl,C,O⟩;replace a:=a.aS O;refine eC 7 17 a (fun _ _ a=>rI true ((ab x)+(ab y)) u H C _ _ a.g a.f.1) ?_;rintro _ _ _ _ _ a ⟨j,i,rfl,I,K⟩;replace a:=a.aS K;exact cG a (fun _ _ a=>tP 8 0 0 ([.bool (au (bD true ((ab x)+(ab y)))),qS j ((lim (ab (bD true ((ab x)+(ab y))))).length) i]) a (fun _ a=>tN (kX (a.ret [(0,0,2)] (.agg #[.bool (au (bD true ((ab x)+(ab y)))),qS j ((lim (ab (bD true ((ab x)+(ab y))))).length) i]) (by rw[show x+y=(bD true ((ab x)+(ab y))) by unfold bD ab at *;simp;omega];exact ⟨_,_,rfl,I,a.f.1⟩)))))
theorem A3 (x:Int)(A:Z9)(c:Nat)(i:(lim (ab x)).length<=c)(b:(lim (ab x)).length<=2000000000)(y:Int)(D:Z9)(d:Nat)(f:(lim (ab y)).length<=d)(a:(lim (ab y)).length<=2000000000)(w:World)(h:Hp)(g:G w h)(e:S3 A (lim (ab x)) h)(j:S3 D (lim (ab y)) h):CR 121 #[.agg #[.bool (au x),.slice A (lim (ab x)).length c],.agg #[.bool (au y),.slice D (lim (ab y)).length d]] w h (fun v h1=>RI h1 v (x+y)):=by
 rcases hx:au x with _|_<;>rcases hy:au y with _|_
 ·exact uf x A c i b y D d f a hx hy w h g e j
 ·exact tz x A c i b y D d f a hx hy w h g e j
 ·exact uB x A c i b y D d f a hx hy w h g e j
 ·exact uA x A c i b y D d f a hx hy w h g e j
theorem tT (x:Int)(A:Z9)(c:Nat)(p:(lim (ab x)).length<=c)(k:(lim (ab x)).length<=2000000000)(hz:x=0)(w:World)(h:Hp)(g:G w h)(e:S3 A (lim (ab x)) h):CV 94 #[.agg #[.bool (au x),.slice A ((lim (ab x)).length) c]] w h (iV x.sign):=by
 have a:=((sS g).aS e);have j:=@bI (ab x);have i:ab x=x.natAbs:=rfl;refine go Tryz.func94 [(0,.agg #[.bool (au x),qS A ((lim (ab x)).length) c])] rfl (aG (lA 1 42 ([.bool (au x),qS A ((lim (ab x)).length) c]) a (fun f w2 l a=>lL a ac (ai (kZ (aa a [.v (qP f 1),.o (qS A ((lim (ab x)).length) c) 0 1 1,.v (nV ((lim (ab x)).length))] ?_))))));have b:((((lim (ab x)).length:Nat):Int) == (0:Int))=true:=ko oM;have d:=eq_of_beq b;exact lB 7 b (lL a ac (aj (aa a ac (af a [] (iV 0) (by subst hz;rfl)))))
theorem tJ (x:Int)(A:Z9)(c:Nat)(p:(lim (ab x)).length<=c)(k:(lim (ab x)).length<=2000000000)(hz:x<0)(w:World)(h:Hp)(g:G w h)(f:S3 A (lim (ab x)) h):CV 94 #[.agg #[.bool true,.slice A ((lim (ab x)).length) c]] w h (iV x.sign):=by
 have a:=((sS g).aS f);have j:=@bI (ab x);have i:ab x=x.natAbs:=rfl;refine go Tryz.func94 [(0,.agg #[qT,qS A ((lim (ab x)).length) c])] rfl (aG (lA 1 42 ([qT,qS A ((lim (ab x)).length) c]) a (fun d w2 l a=>lL a ac (ai (kZ (aa a [.v (qP d 1),.o (qS A ((lim (ab x)).length) c) 0 1 1,.v (nV ((lim (ab x)).length))] ?_))))));have b:((((lim (ab x)).length:Nat):Int) == (0:Int))=false:=gI oM;have e:=ao b;exact lB 7 b (lL a ac (ah (aa a [.v (pB d),.o qT 0 0 1,.c] (aj (aa a ac (af a [] (iV (-1)) (by rw[J6 hz])))))))
theorem uh (x:Int)(A:Z9)(c:Nat)(p:(lim (ab x)).length<=c)(k:(lim (ab x)).length<=2000000000)(hz:0<x)(w:World)(h:Hp)(g:G w h)(f:S3 A (lim (ab x)) h):CV 94 #[.agg #[.bool false,.slice A ((lim (ab x)).length) c]] w h (iV x.sign):=by
 have a:=((sS g).aS f);have j:=@bI (ab x);have i:ab x=x.natAbs:=rfl;refine go Tryz.func94 [(0,.agg #[qF,qS A ((lim (ab x)).length) c])] rfl (aG (lA 1 42 ([qF,qS A ((lim (ab x)).length) c]) a (fun d w2 l a=>lL a ac (ai (kZ (aa a [.v (qP d 1),.o (qS A ((lim (ab x)).length) c) 0 1 1,.v (nV ((lim (ab x)).length))] ?_))))));have b:((((lim (ab x)).length:Nat):Int) == (0:Int))=false:=gI oM;have e:=ao b;exact lB 7 b (lL a ac (ah (aa a [.v (pB d),.o qF 0 0 1,.c] (ah (cK (aa a ac (af a [] (iV 1) (by rw[J7 hz]))))))))
theorem vr (x:Int)(A:Z9)(c:Nat)(d:(lim (ab x)).length<=c)(a:(lim (ab x)).length<=2000000000)(w:World)(h:Hp)(g:G w h)(b:S3 A (lim (ab x)) h):CV 94 #[.agg #[.bool (au x),.slice A (lim (ab x)).length c]] w h (iV x.sign):=by
 rcases J5 x 0 with hz|hz|hz
 ·have:=tJ x A c d a hz w h g b
  rwa [<-show au x=true by simp[au,hz]] at this
 ·exact tT x A c d a hz w h g b
 ·have:=uh x A c d a hz w h g b
  rwa [<-show au x=false by simp[au];omega] at this
theorem Cw (x:Int)(A:Z9)(c:Nat)(i:(lim (ab x)).length<=c)(I:(lim (ab x)).length<=2000000000)(y:Int)(D:Z9)(d:Nat)(C:(lim (ab y)).length<=d)(l:(lim (ab y)).length<=2000000000)(w:World)(h:Hp)(g:G w h)(k:S3 A (lim (ab x)) h)(p:S3 D (lim (ab y)) h):CR 95 #[.agg #[.bool (au x),.slice A ((lim (ab x)).length) c],.agg #[.bool (au y),.slice D ((lim (ab y)).length) d]] w h (fun v h1=>RI h1 v (x-y)):=by
 have a:=(((sS g).aS k).aS p);have B:(lim (ab (-y))).length=(lim (ab y)).length:=by unfold ab;rw[Int.natAbs_neg]
 refine go Tryz.func95 [(0,.agg #[.bool (au x),qS A ((lim (ab x)).length) c]),(1,.agg #[.bool (au y),qS D ((lim (ab y)).length) d])] rfl (aG (lA 2 42 ([.bool (au x),qS A ((lim (ab x)).length) c]) a (fun J w2 Q a=>lA 3 42 ([.bool (au y),qS D ((lim (ab y)).length) d]) a (fun L O M a=>lA 4 42 ([qF,sZ]) a (fun S K U a=>ai (cR 4 [] mixed a aw ?_))))));refine eO 0 5 [(2,0,2)] (.agg #[.bool (au x),qS A ((lim (ab x)).length) c]) a (eO 1 6 [(1,0,2)] (.agg #[.bool (au y),qS D ((lim (ab y)).length) d]) a (eC 2 7 a (fun _ _ a=>AZ y D d C oM _ _ a.g a.f.1) ?_));rintro _ _ _ _ _ a ⟨j,u,rfl,o,H⟩;replace a:=a.aS H;refine eC 3 8 a (fun _ _ a=>A3 x A c i oM (-y) j u o oM _ _ a.g a.f.r.1 a.f.1) ?_;rintro _ _ _ _ _ a ⟨e,b,rfl,z,F⟩;replace a:=a.aS F;exact cG a (fun _ _ a=>tP 4 0 0 ([.bool (au (x+(-y))),qS e ((lim (ab (x+(-y)))).length) b]) a (fun _ a=>tN (kX (a.ret [(0,0,2)] (.agg #[.bool (au (x+(-y))),qS e ((lim (ab (x+(-y)))).length) b]) (by rw[Int.sub_eq_add_neg];exact ⟨_,_,rfl,z,a.f.1⟩)))))
theorem tR (x y:Int):(x-y).sign=dQ x y:=by
 unfold dQ
 rcases J5 x y with h|h|h
 ·rw[if_pos h,J6 oM]
 ·subst h;simp
 ·rw[if_neg oM,if_pos h,J7 oM]
theorem Ch (x:Int)(A:Z9)(c:Nat)(j:(lim (ab x)).length<=c)(i:(lim (ab x)).length<=1999999999)(y:Int)(D:Z9)(d:Nat)(z:(lim (ab y)).length<=d)(b:(lim (ab y)).length<=1999999999)(w:World)(h:Hp)(g:G w h)(l:S3 A (lim (ab x)) h)(u:S3 D (lim (ab y)) h):CV 72 #[.agg #[.bool (au x),.slice A ((lim (ab x)).length) c],.agg #[.bool (au y),.slice D ((lim (ab y)).length) d]] w h (iV (dQ x y)):=by
 have a:=(((sS g).aS l).aS u);have k:(lim (ab (x-y))).length<=2000000000:=j6 (show ab (x-y)<=ab x+ab y by unfold ab;omega) (kb i b);refine go Tryz.func72 [(0,.agg #[.bool (au x),qS A ((lim (ab x)).length) c]),(1,.agg #[.bool (au y),qS D ((lim (ab y)).length) d])] rfl (aG (lA 2 42 ([.bool (au x),qS A ((lim (ab x)).length) c]) a (fun F w2 K a=>lA 3 42 ([.bool (au y),qS D ((lim (ab y)).length) d]) a (fun H J I a=>lL a ac (aE (lL a [.o (.agg #[.bool (au x),qS A ((lim (ab x)).length) c]) 1 0 2,.o (.agg #[.bool (au y),qS D ((lim (ab y)).length) d]) 0 0 2] (lC 7 a (Cw x A c j oM y D d z oM _ _ a.g a.f.2.1 a.f.1) ?_)))))));rintro _ _ _ a ⟨C,B,rfl,e,p⟩;replace a:=a.aS p;exact aq 8 a (vr (x-y) C B e oM _ _ a.g a.f.1) (fun _ _ a=>lL a ac (af a [] (iV (((x-y)).sign)) (by rw[tR])))
theorem wn (a:Nat)(A:Z9)(c:Nat)(i:(lim a).length<=c)(b:Nat)(D:Z9)(d:Nat)(o:(lim b).length<=d)(q:Nat)(k:q=JK a b)(e:(lim a).length<=3000000000)(f:(lim b).length<=3000000000)(w:World)(h:Hp)(g:G w h)(j:S3 A (lim a) h)(l:S3 D (lim b) h):CR 197 #[.slice A (lim a).length c,.slice D (lim b).length d] w h (fun v h1=>RN h1 v q):=by
 subst k;exact Bi a A c i b D d o e f w h g j l
theorem tY (n d:Int)(i:d≠0):(og n d).num=bD (au n != au d) (ab n/JK (ab n) (ab d))/\(og n d).den=ab d/JK (ab n) (ab d)/\0<JK (ab n) (ab d):=by
  have c:0<ab d:=by unfold ab;omega
  have hz:ab (if d<0 then -n else n)=ab n:=by unfold ab;split<;>omega
  obtain ⟨h1,k,j,h⟩:=gV (if d<0 then -n else n) (ab d) c;rw[hz] at h1 k j h
  refine ⟨?_,k,h⟩;have f:=pg _ _ j;rw[hz] at f
  show (mkRat _ _).num=_
  rw[h1,<-f]
  by_cases hn:n=0
  . have l:ab n/JK (ab n) (ab d)=0:=by rw[hn];exact Nat.zero_div _
    rw[l]
    unfold bD
    simp
  . have e:decide ((if d<0 then -n else n).sign<0)=(au n != au d):=by
      unfold au
      rcases J5 n 0 with a|a|a
      . rcases J5 d 0 with b|b|b
        . rw[if_pos b,J7 oM];simp[a,b]
        . exact absurd b i
        . rw[if_neg oM,J6 a];simp[a,show ¬d<0 by omega]
      . exact absurd a hn
      . rcases J5 d 0 with b|b|b
        . rw[if_pos b,J6 oM];simp[show ¬n<0 by omega,b]
        . exact absurd b i
        . rw[if_neg oM,J7 a];simp[show ¬n<0 by omega,show ¬d<0 by omega]
    rw[e]
theorem sn (x:Int)(A:Z9)(c:Nat)(I:(lim (ab x)).length<=c)(hLx:(lim (ab x)).length<=2000000000)(y:Int)(D:Z9)(d:Nat)(O:(lim (ab y)).length<=d)(C:(lim (ab y)).length<=2000000000)(B:y≠0)(w:World)(h:Hp)(g:G w h)(U:S3 A (lim (ab x)) h)(W:S3 D (lim (ab y)) h):CR 169 #[.agg #[.bool (au x),.slice A ((lim (ab x)).length) c],.agg #[.bool (au y),.slice D ((lim (ab y)).length) d]] w h (fun v h1=>RQ h1 v (og x y)):=by
 have a:=(((sS g).aS U).aS W);obtain ⟨j,k,i⟩:=tY x y B;obtain ⟨q,hq⟩:∃ q,q=JK (ab x) (ab y):=⟨_,rfl⟩;rw[<-hq] at j k i
 have hql:(lim q).length<=2000000000:=j6 (by rw[hq];exact Kc _ (by unfold ab;omega)) C;refine go Tryz.func169 [(0,.agg #[.bool (au x),qS A ((lim (ab x)).length) c]),(1,.agg #[.bool (au y),qS D ((lim (ab y)).length) d])] rfl (aG (lA 2 42 ([.bool (au x),qS A ((lim (ab x)).length) c]) a (fun u w2 h3 a=>lA 3 42 ([.bool (au y),qS D ((lim (ab y)).length) d]) a (fun z w5 h6 a=>lA 4 44 ([qF,sZ,sZ]) a (fun b7 w8 h9 a=>aE (lL a [.v (qP u 1),.o (qS A ((lim (ab x)).length) c) 2 1 1,.v (qP z 1),.o (qS D ((lim (ab y)).length) d) 1 1 1] (lC 14 a (wn (ab x) A c I (ab y) D d O q hq oM oM _ _ a.g a.f.2.1 a.f.1) ?_)))))));rintro _ _ _ a ⟨Q,J,rfl,L,Y⟩;replace a:=a.aS Y;refine lL a ac (aE (lL a [.v (qP u 1),.o (qS A ((lim (ab x)).length) c) 2 1 1,.c] (lC 19 a (na (ab x) A c I q Q J L oM oM i _ _ a.g a.f.r.1 a.f.1) ?_)));rintro _ _ _ a ⟨_,b,rfl,⟨M,K,rfl,X,V⟩,-⟩;replace a:=a.aS V;refine lL a [.c,.v (qS M ((lim ((ab x)/q)).length) K),.v b,.c,.c] (aE (lL a [.v (qP z 1),.o (qS D ((lim (ab y)).length) d) 1 1 1,.c] (lC 26 a (na (ab y) D d O q Q J L oM oM i _ _ a.g a.f.r.1 a.f.2.1) ?_)));rintro _ _ _ a ⟨_,e,rfl,⟨p,l,rfl,zn,Z⟩,-⟩;replace a:=a.aS Z;refine lL a [.c,.v (qS p ((lim ((ab y)/q)).length) l),.v e,.c,.c] (aE (lL a [.v (pB u),.o (.bool (au x)) 2 0 1,.v (pB z),.o (.bool (au y)) 1 0 1,.v (.bool ((au x) != (au y))),.c] (lC 35 a (rI ((au x) != (au y)) ((ab x)/q) M K X _ _ a.g a.f.2.1) ?_)));rintro _ _ _ a ⟨H,F,rfl,zp,S⟩;replace a:=a.aS S;exact lL a [.c,.v (.agg #[.bool (au (bD ((au x) != (au y)) ((ab x)/q))),qS H ((lim (ab (bD ((au x) != (au y)) ((ab x)/q)))).length) F,qS p ((lim ((ab y)/q)).length) l])] (lP 0 0 ([.bool (au (bD ((au x) != (au y)) ((ab x)/q))),qS H ((lim (ab (bD ((au x) != (au y)) ((ab x)/q)))).length) F,qS p ((lim ((ab y)/q)).length) l]) a (fun _ a=>af a [(0,0,3)] (.agg #[.bool (au (bD ((au x) != (au y)) ((ab x)/q))),qS H ((lim (ab (bD ((au x) != (au y)) ((ab x)/q)))).length) F,qS p ((lim ((ab y)/q)).length) l]) (by unfold RQ;rw[j,k];exact ⟨_,_,_,_,rfl,zp,zn,a.f.1,a.f.2.1⟩)))
theorem pl (x:Int)(d:Nat):(lim (ab (x*((d:Nat):Int)))).length<=(lim (ab x)).length+(lim d).length:=by
 have:ab (x*((d:Nat):Int))=ab x*d:=J2 x (d:Int);rw[this];exact pi
theorem G3 (a:Rat)(e:Z9)(c1:Nat)(d:Z9)(c:Nat)(C:(lim (ab a.num)).length<=c1)(i:(lim a.den).length<=c)(y:(lim (ab a.num)).length<=300000000)(z:(lim a.den).length<=300000000)(w:World)(h:Hp)(g:G w h)(l:S3 e (lim (ab a.num)) h)(k:S3 d (lim a.den) h):CR 74 #[.agg #[.bool (au a.num),.slice e ((lim (ab a.num)).length) c1,.slice d ((lim (a.den)).length) c]] w h (fun v h1=>RI h1 v (a.den:Int)):=by
 have b:=(((sS g).aS l).aS k);refine go Tryz.func74 [(0,.agg #[.bool (au a.num),qS e ((lim (ab a.num)).length) c1,qS d ((lim (a.den)).length) c])] rfl (aG (lA 1 44 ([.bool (au a.num),qS e ((lim (ab a.num)).length) c1,qS d ((lim (a.den)).length) c]) b (fun x w2 I b=>lA 2 42 ([qF,sZ]) b (fun D H F b=>aE (lL b [.v (qP x 2),.o (qS d ((lim (a.den)).length) c) 1 2 1] (lC 5 b (rI false a.den d c i _ _ b.g b.f.1) ?_))))));rintro _ _ _ b ⟨u,p,rfl,j,B⟩;replace b:=b.aS B;exact lP 0 0 ([.bool (au (bD false a.den)),qS u ((lim (ab (bD false a.den))).length) p]) b (fun _ b=>af b [(0,0,2)] (.agg #[.bool (au (bD false a.den)),qS u ((lim (ab (bD false a.den))).length) p]) (⟨_,_,rfl,j,b.f.1⟩))
theorem HY (a:Rat)(e:Z9)(c1:Nat)(l:Z9)(i:Nat)(p:(lim (ab a.num)).length<=c1)(x:(lim a.den).length<=i)(L:(lim (ab a.num)).length<=300000000)(S:(lim a.den).length<=300000000)(b:Rat)(d:Z9)(c2:Nat)(k:Z9)(j:Nat)(o:(lim (ab b.num)).length<=c2)(u:(lim b.den).length<=j)(hn2:(lim (ab b.num)).length<=300000000)(hm2:(lim b.den).length<=300000000)(w:World)(h:Hp)(g:G w h)(D:S3 e (lim (ab a.num)) h)(z:S3 l (lim a.den) h)(B:S3 d (lim (ab b.num)) h)(C:S3 k (lim b.den) h):CV 47 #[.agg #[.bool (au a.num),.slice e ((lim (ab a.num)).length) c1,.slice l ((lim (a.den)).length) i],.agg #[.bool (au b.num),.slice d ((lim (ab b.num)).length) c2,.slice k ((lim (b.den)).length) j]] w h (iV (fr a b)):=by
 have c:=(((((sS g).aS D).aS z).aS B).aS C);have X:=pl a.num b.den;have M:=pl b.num a.den;refine go Tryz.func47 [(0,.agg #[.bool (au a.num),qS e ((lim (ab a.num)).length) c1,qS l ((lim (a.den)).length) i]),(1,.agg #[.bool (au b.num),qS d ((lim (ab b.num)).length) c2,qS k ((lim (b.den)).length) j])] rfl (aG (lA 2 44 ([.bool (au a.num),qS e ((lim (ab a.num)).length) c1,qS l ((lim (a.den)).length) i]) c (fun F w2 h3 c=>lA 3 44 ([.bool (au b.num),qS d ((lim (ab b.num)).length) c2,qS k ((lim (b.den)).length) j]) c (fun I w5 h6 c=>lL c ac (ai (cR 11 [] mixed c aw ?_))))));refine eV 0 5 (pB F) (eO 1 6 [(1,0,2)] (.agg #[.bool (au a.num),qS e ((lim (ab a.num)).length) c1]) c (eO 2 7 [(0,0,3)] (.agg #[.bool (au b.num),qS d ((lim (ab b.num)).length) c2,qS k ((lim (b.den)).length) j]) c (eV 5 10 (pB I) (eO 6 11 [(0,0,2)] (.agg #[.bool (au b.num),qS d ((lim (ab b.num)).length) c2]) c (eO 7 12 [(1,0,3)] (.agg #[.bool (au a.num),qS e ((lim (ab a.num)).length) c1,qS l ((lim (a.den)).length) i]) c (eC 3 8 c (fun _ _ c=>G3 b d c2 k j o u oM oM _ _ c.g c.f.2.1 c.f.1) ?_))))));rintro _ _ _ _ _ c ⟨A7,c8,rfl,y,U⟩;replace c:=c.aS U;refine eC 4 9 c (fun _ _ c=>si a.num e c1 p oM (b.den:Int) A7 c8 y (show (lim (b.den)).length<=2000000000 by omega) _ _ c.g c.f.q.1 c.f.1) ?_;rintro _ _ _ _ _ c ⟨V,O,rfl,K,Q⟩;replace c:=c.aS Q;refine eC 8 13 c (fun _ _ c=>G3 a e c1 l i p x oM oM _ _ c.g c.f.q.2.1 c.f.q.1) ?_;rintro _ _ _ _ _ c ⟨Y,W,rfl,zd,Z⟩;replace c:=c.aS Z;refine eC 9 14 c (fun _ _ c=>si b.num d c2 o oM (a.den:Int) Y W zd (show (lim (a.den)).length<=2000000000 by omega) _ _ c.g c.f.q.1 c.f.1) ?_;rintro _ _ _ _ _ c ⟨J,zn,rfl,zf,H⟩;replace c:=c.aS H;exact aK 10 15 c (fun _ _ c=>Ch (a.num*(b.den:Int)) V O K oM (b.num*(a.den:Int)) J zn zf oM _ _ c.g c.f.r.1 c.f.1) (fun _ _ c=>cG c (fun _ _ c=>tV 11 4 (iV (dQ (a.num*(b.den:Int)) (b.num*(a.den:Int)))) (tN (kX (c.ret [] (iV (dQ (a.num*(b.den:Int)) (b.num*(a.den:Int)))) rfl)))))
theorem iU (z:Int)(n:Nat):og z (bD false n)=mkRat z n:=by
 have h1:bD false n=(n:Int):=rfl;rw[h1];unfold og;rw[if_neg oM];rfl
theorem I4 (z:Int)(h0 : -9223372036854775808<=z)(h1:z<9223372036854775808)(w:World)(h:Hp)(g:G w h):CR 168 #[iV z] w h (fun v h1=>RQ h1 v (z:Rat)):=by
 have a:=sS g;refine go Tryz.func168 [(0,iV z)] rfl (aG (lA 2 44 ([qF,sZ,sZ]) a (fun o w2 u a=>aE (lL a ac (lC 4 a (E3 z oM oM _ _ a.g) ?_)))));rintro _ p x a ⟨e,i,rfl,d,j⟩;replace a:=a.aS j;refine lC 5 a (eD 1 oM _ _ a.g) ?_;rintro _ _ _ a ⟨c,b,rfl,k,l⟩;replace a:=a.aS l;exact lL a [.v (.agg #[.bool (au z),qS e ((lim (ab z)).length) i,qS c ((lim 1).length) b])] (lP 0 0 ([.bool (au z),qS e ((lim (ab z)).length) i,qS c ((lim 1).length) b]) a (fun _ a=>af a [(0,0,3)] (.agg #[.bool (au z),qS e ((lim (ab z)).length) i,qS c ((lim 1).length) b]) (by unfold RQ;rw[Ka,Kb];exact ⟨_,_,_,_,rfl,d,k,a.f.2.1,a.f.1⟩)))
theorem vt {P:Program}{Γ:ck}{o:Oper}{t u:TypeId}{x y:Operand}{ky:IntKind}{a n:Nat}(b:o.op=.binOp .shl t x y u)(d:ev Γ x=.int .u32 (a:Int))(c:ev Γ y=.int ky (n:Int))(e:n<=32)(hf:a*2^n<4294967296)(w:World) :
  (execOp (ev Γ) o).run P w=.ok (.value (.int .u32 ((a*2^n:Nat):Int))) w:=by
 have:=Gy (P:=P) b d c e w;rw[show ((a:Int)*2^n)=((a*2^n:Nat):Int) by simp,Dm hf] at this
 exact this
theorem tF {n m:Nat}(h:n<256^m):∀ j,j<(m+3)/4->(ta ((m+3)/4) 0).getD j 0=eL n (m-0) j:=fun j a=>by
 rw[Nat.sub_zero,ve h];simp[a]
theorem tL {l:List Nat}{n m i x:Nat}(hi:i<m)(c:l.length=(m+3)/4)(hv:∀ j,j<(m+3)/4->l.getD j 0=eL n (m-i) j)(a:x=eL n (m-1-i) ((m-1-i)/4)) :
  ∀ j,j<(m+3)/4->(l.set ((m-1-i)/4) x).getD j 0=eL n (m-(i+1)) j:=by
 intro j b;rw[show m-(i+1)=m-1-i by omega]
 by_cases e:j=(m-1-i)/4
 ·subst e
  have:(m-1-i)/4<l.length:=by omega
  simp[this,a]
 ·rw[mQ,if_neg e,show m-1-i+1=m-i by omega,<-hv j b]
  simp only[A6]
  rw[List.getElem?_set_ne (Ne.symm e)]
theorem r5 {n k:Nat}:eL n (k+1) (k/4) ||| (n/256^k%256)*2^(8*(k%4))=eL n k (k/4):=by rw[mQ n k (k/4),if_pos rfl]
theorem mA {b k:Nat}(a:b<256):b*2^(8*(k%4))<4294967296:=by
 have:k%4=0\/k%4=1\/k%4=2\/k%4=3:=by omega
 rcases this with e|e|e|e<;>rw[e]<;>omega
theorem uR {l:List Nat}{n m:Nat}(b:n<256^m)(d:l.length=(m+3)/4)(hv:∀ j,j<(m+3)/4->l.getD j 0=eL n (m-m) j):am 4294967296 l=n/\Ld l:=by
 constructor
 ·rw[<-jF]
  refine gZ l n (fun j a=>by rw[hv j oM,Nat.sub_self,tm]) ?_;refine Nat.lt_of_lt_of_le b ?_;rw[d,show (256:Nat)=2^8 by rfl,show (4294967296:Nat)=2^32 by rfl,<-Nat.pow_mul,<-Nat.pow_mul];exact Aa oM oM
 ·intro x c
  obtain ⟨j,a,rfl⟩:=List.mem_iff_getElem.1 c;have:=hv j oM;have e:l[j]=l.getD j 0:=by simp[a]
  rw[e,this];exact nH _ _ _
theorem vP (n m:Nat)(A:Z9)(cap:Nat)(hc:m<=cap)(hm:m<=1099511627776)(V:n<256^m)(w:World)(h:Hp)(g:G w h)(X:SlO 1 p8 0 h A (fx n m)):CR 99 #[.slice A m cap] w h (fun v h1=>RN h1 v n):=by
 have e:=((sS g).aS X);have hbl:=jb n m;refine go Tryz.func99 [(0,qS A m cap)] rfl (aa e ac (aE (lL e [.c,.v (nV m)] (bg 8 ((m:Nat)+3) (m+3) ?_))));refine lV 9 (nV ((m+3)/4)) ?_ (hr:=aN (cZ (t:=3) (u:=3) (x:=.tmp 8) (y:=.const (iV 4)) (k:=.i64) (a:=((m+3:Nat):Int)) (b:=(4:Int)) kR kR kR oM _) (dh (m+3) 4 oM));refine lK 10 161 ((m+3)/4) 1 4 (uW 0) aW 0 e (fun B w2 h3 e=>?_);have Q:(ta ((m+3)/4) 0).length=((m+3)/4):=by simp
 refine lL e ac (ai (aa e ac (bE ?_)));refine bG _ (CG.loop (fun K Γ w_=>∃ (i:Nat)(l:List Nat)(O:Hp),K=m-i/\Γ=[(0,qS A m cap),(2,sZ),(3,qS (sB B) ((m+3)/4) ((m+3)/4)),(4,nV i)]/\SS w h w_ O [⟨B,161,(l).flatMap aW⟩] [] [fun O=>SlO 1 p8 0 O A (fx n m)]/\i<=m/\l.length=(m+3)/4/\(∀ j,j<(m+3)/4->l.getD j 0=eL n (m-i) j)) _ ⟨0,ta ((m+3)/4) 0,h3,rfl,rfl,e.to _ _,JH _,Q,(tF V)⟩ ?_);rintro _ _ w5 ⟨i,l,h6,hm7,rfl,e,hi,p,hv⟩;refine cQ (aa e [.c,.c,.v (nV m)] ?_);cases C:(decide ((i:Int)<(m:Int)))
 .
  have D:=oF C;refine lB 14 C (ah (CG.exit ?_))
  show CG _ _ _ _ _ _ _ _
  refine aa e ac ?_;have M:i=m:=by omega
  rw[M] at hv
  obtain ⟨L,J⟩:=uR V p hv;obtain ⟨h9,e,F,U,S⟩:=e.pub 0;replace e:=(e.to [] []).aS (SlO.of_flat (sz:=1) (f:=aW) (d:=0) (b:=B) (o:=0) (l:=l) (fun _=>rfl) F);exact aq 43 e (iE (sB B) ((m+3)/4) l ((m+3)/4) p oM oM _ _ e.g e.f.1) (fun _ _ e=>lL e ac (af e [] (qS (sB B) (tl l ((m+3)/4)) ((m+3)/4)) (RN.trim J L p oM e.f.1)))
 have D:=oT C;refine lB 14 C (aj (cK (cQ (kZ (aa e [.c,.v (nV m)] (bg 19 ((m:Nat)-1) (m-1) ?_))))));refine lL e ac (bg 21 ((m-1:Nat)-(i:Nat)) ((m-1)-i) ?_);refine lL e ac (lN (cR 19 [] mixed e aw ?_));refine eV 0 22 (qS (sB B) ((m+3)/4) ((m+3)/4)) (eV 1 23 (nV ((m-1)-i)) (eV 2 24 (nV (((m-1)-i)/4)) ?_ (hv:=fun _=>aN (cZ (t:=3) (u:=3) (x:=.tmp 23) (y:=.const (iV 4)) (k:=.i64) (a:=(((m-1)-i:Nat):Int)) (b:=(4:Int)) kR kR kR oM _) (dh ((m-1)-i) 4 oM))));refine eV 3 25 (qS (sB B) ((m+3)/4) ((m+3)/4)) (eV 4 26 (nV ((m-1)-i)) (eV 5 27 (nV (((m-1)-i)/4)) ?_ (hv:=fun _=>aN (cZ (t:=3) (u:=3) (x:=.tmp 26) (y:=.const (iV 4)) (k:=.i64) (a:=(((m-1)-i:Nat):Int)) (b:=(4:Int)) kR kR kR oM _) (dh ((m-1)-i) 4 oM))));refine eX 6 28 (sB B) ((m+3)/4) ((m+3)/4) 1 (((m-1)-i)/4:Nat) (((m-1)-i)/4:Nat) rfl (eQ 7 29 0 l aW 1 0 (((m-1)-i)/4:Nat) (mW ((l).getD (((m-1)-i)/4:Nat) 0)) e oM (eV 8 30 (qS A m cap) (eV 9 31 (nV i) (eX 10 32 A m cap 1 (i:Nat) i ((e.f.1).ok oM) ?_))));have z:=hv ((m-1-i)/4) oM;have H:l.getD ((m-1-i)/4) 0 ||| (n/256^(m-1-i)%256)*2^(8*((m-1-i)%4))=eL n (m-1-i) ((m-1-i)/4):=by rw[z,show m-i=m-1-i+1 by omega];exact r5
 have I:l.getD ((m-1-i)/4) 0<4294967296:=by rw[z];exact nH _ _ _
 have z:=hv ((m-1-i)/4) oM;have H:l.getD ((m-1-i)/4) 0 ||| (n/256^(m-1-i)%256)*2^(8*((m-1-i)%4))=eL n (m-1-i) ((m-1-i)/4):=by rw[z,show m-i=m-1-i+1 by omega];exact r5
 have I:l.getD ((m-1-i)/4) 0<4294967296:=by rw[z];exact nH _ _ _
 refine IU 11 33 (.int .u8 ((fx n m).getD i 0:Nat)) e ((e.f.1).el i oM) (by rw[it n m _ oM]) (eV 12 34 (mW (n/256^(m-1-i)%256)) ?_ (hv:=fun _=>rT (((n/256^(m-1-i)%256:Nat):Int)) kR (ns oM oM)));refine eV 13 35 (nV ((m-1)-i)) (eV 14 36 (nV (((m-1)-i)%4)) ?_ (hv:=fun _=>aN (dV (t:=3) (u:=3) (x:=.tmp 35) (y:=.const (iV 4)) (k:=.i64) (a:=(((m-1)-i:Nat):Int)) (b:=(4:Int)) kR kR kR oM _) (cM ((m-1)-i) 4)));refine iO 15 37 (8*(((m-1)-i)%4:Nat)) (8*(((m-1)-i)%4:Nat)) (eV 16 38 (mV (8*(((m-1)-i)%4:Nat))) ?_ (hv:=fun _=>rU (((8*(((m-1)-i)%4:Nat):Nat):Int)) kR (az oM oM)));refine eV 17 39 (mW ((n/256^(m-1-i)%256)*2^(8*((m-1-i)%4)))) ?_ (hv:=fun _=>vt (t:=161) (u:=162) (x:=.tmp 34) (y:=.tmp 38) (ky:=.u64) (a:=n/256^(m-1-i)%256) (n:=8*((m-1-i)%4)) kR kR kR oM (mA oM) _);refine eV 18 40 (mW (eL n (m-1-i) ((m-1-i)/4))) ?_ (hv:=fun _=>aN (Fi (t:=161) (u:=161) (x:=.tmp 29) (y:=.tmp 39) (a:=l.getD ((m-1-i)/4) 0) (b:=(n/256^(m-1-i)%256)*2^(8*((m-1-i)%4))) kR kR kR I (mA oM) _) (congrArg Int.ofNat H));refine cG e (fun _ Y e=>tX 19 41 (sB B) ((m+3)/4) ((m+3)/4) 1 (((m-1)-i)/4:Nat) (((m-1)-i)/4:Nat) rfl (tW 20 0 l aW 1 (((m-1)-i)/4:Nat) (eL n (m-1-i) ((m-1-i)/4):Nat) e oM (fun _ e=>?_)));have Z:((l).set (((m-1)-i)/4:Nat) (eL n (m-1-i) ((m-1-i)/4):Nat)).length=((m+3)/4):=by rw[List.length_set];exact p
 replace e:=e.to [⟨B,161,((l).set (((m-1)-i)/4:Nat) (eL n (m-1-i) ((m-1-i)/4):Nat)).flatMap aW⟩] [];refine tN (kQ (lL e ac (bg 16 ((i:Nat)+1) (i+1) ?_)));refine lL e ac (lD ?_);intro a_ W;refine ⟨_,_,?_,⟨i+1,(l).set (((m-1)-i)/4:Nat) (eL n (m-1-i) ((m-1-i)/4):Nat),Y,rfl,rfl,e.to _ _,oM,Z,(tL oM p hv rfl)⟩,W.to _ kR⟩
 omega
def Iw (q:Rat):Rat:=if q.num<0 then -q else q
theorem LQ.ln {q:Rat}(h:LQ 100000000 q):(lim (ab q.num)).length<=300000000:=ed (sa _) (by have:=h.1;omega)
theorem LQ.ld {q:Rat}(h:LQ 100000000 q):(lim q.den).length<=300000000:=ed (sa _) (by have:=h.2;omega)
theorem nl {k:Nat}{q:Rat}(h:LQ k q)(a:k<=100000000:=by omega):(lim (ab q.num)).length<=300000000:=LQ.ln (h.mono a)
theorem nD {k:Nat}{q:Rat}(h:LQ k q)(a:k<=100000000:=by omega):(lim q.den).length<=300000000:=LQ.ld (h.mono a)
theorem LQ.int {z:Int}(h0 : -9223372036854775808<=z)(h1:z<=9223372036854775807):LQ 1 (z:Rat):=⟨by rw[Ka];exact ft.2 (by unfold ab;omega),by rw[Kb];exact ft.2 oM⟩
theorem LQ.lit {z:Int}(h : -9223372036854775808<=z/\z<=9223372036854775807):LQ 1 (z:Rat):=LQ.int h.1 h.2
def Eu (a b:List Rat):Nat->Rat
  | 0=>0
  | k+1=>Eu a b k+a.getD k 0*b.getD k 0
theorem tg (n:Nat)(p:(wds n).length<=100000000)(w:World)(h:Hp)(g:G w h):CR 77 #[nv n] w h (fun v h1=>RN h1 v n):=by
 have a:=sS g;have i:=kL n;refine go Tryz.func77 [(0,nv n)] rfl (aG (lA 1 26 (nc n) a (fun l w2 x a=>lL a ac (aE (lL a [.o (nv n) 0 0 2] (lC 4 a (wA n oM _ _ a.g) ?_))))));rintro _ u k a ⟨j,rfl,b⟩;replace a:=a.aS b;refine lC 5 a (vP n ((nb n+7)/8) j ((nb n+7)/8) (nR _) oM (CX n) _ _ a.g a.f.1) ?_;rintro _ _ _ a ⟨e,c9,rfl,d,c⟩;replace a:=a.aS c;exact lL a ac (af a [] (qS e ((lim n).length) c9) (⟨_,_,rfl,d,a.f.1⟩))
theorem BX (z:Int):bD (decide (z.sign<(0:Int))) (ab z)=z:=by
 rcases J5 z 0 with h|h|h
 ·rw[J6 h];unfold bD ab;simp;omega
 ·subst h;rfl
 ·rw[J7 h];unfold bD ab;simp;omega
theorem B4 (z:Int)(p:(wds (ab z)).length<=100000000)(w:World)(h:Hp)(g:G w h):CR 75 #[iv z] w h (fun v h1=>RI h1 v z):=by
 have a:=sS g;refine go Tryz.func75 [(0,iv z)] rfl (aG (lA 1 28 (ic z) a (fun o w2 D a=>lA 2 42 ([qF,sZ]) a (fun u B x a=>ai (cR 7 [] mixed a aw ?_)))));refine eO 0 3 [(1,0,3)] (iv z) a (eO 3 6 [(1,0,3)] (iv z) a (aK 1 4 a (fun _ _ a=>mp z oM _ _ a.g) (fun F C a=>eV 2 5 (.bool (decide ((z.sign:Int)<(0:Int)))) (aK 4 7 a (fun _ _ a=>DO z _ _ a.g) (fun y _ a=>eC 5 8 a (fun _ _ a=>tg (ab z) (by first|exact hq.2|omega) _ _ a.g) ?_)))));rintro _ _ _ _ _ a ⟨d,i,rfl,e,l⟩;replace a:=a.aS l;refine eC 6 9 a (fun _ _ a=>rI (decide ((z.sign:Int)<(0:Int))) (ab z) d i e _ _ a.g a.f.1) ?_;rintro _ _ _ _ _ a ⟨c,b,rfl,j,k⟩;replace a:=a.aS k;exact cG a (fun _ _ a=>tP 7 0 0 ([.bool (au (bD (decide ((z.sign:Int)<(0:Int))) (ab z))),qS c ((lim (ab (bD (decide ((z.sign:Int)<(0:Int))) (ab z)))).length) b]) a (fun _ a=>tN (kX (a.ret [(0,0,2)] (.agg #[.bool (au (bD (decide ((z.sign:Int)<(0:Int))) (ab z))),qS c ((lim (ab (bD (decide ((z.sign:Int)<(0:Int))) (ab z)))).length) b]) (by rw[BX] at *;exact ⟨_,_,rfl,j,a.f.1⟩)))))
theorem Ig (q:Rat)(e:LQ 100000000 q)(w:World)(h:Hp)(g:G w h):CR 48 #[qv q] w h (fun v h1=>RQ h1 v q):=by
 have a:=sS g;refine go Tryz.func48 [(0,qv q)] rfl (aG (lA 1 30 (qc q) a (fun p w2 B a=>lA 2 44 ([qF,sZ,sZ]) a (fun u y x a=>ai (cR 7 [] mixed a aw ?_)))));refine eO 0 3 [(1,0,5)] (qv q) a (eO 3 6 [(1,0,5)] (qv q) a (aK 1 4 a (fun _ _ a=>H9 q _ _ a.g) (fun C z a=>eC 2 5 a (fun _ _ a=>B4 q.num e.1 _ _ a.g) ?_)));rintro _ _ _ _ _ a ⟨b,i,rfl,o,k⟩;replace a:=a.aS k;refine aK 4 7 a (fun _ _ a=>vM q e _ _ a.g) (fun _ _ a=>eC 5 8 a (fun _ _ a=>tg q.den (by first|exact e.2|omega) _ _ a.g) ?_);rintro _ _ _ _ _ a ⟨c,d,rfl,l,j⟩;replace a:=a.aS j;exact eV 6 9 (rG q b i c d) (cG a (fun _ _ a=>tP 7 0 0 (gA q b i c d) a (fun _ a=>tN (kX (a.ret [(0,0,3)] (rG q b i c d) (⟨_,_,_,_,rfl,o,l,a.f.2.1,a.f.1⟩))))))
def ng (n:Int)(m:Nat):Nat:=(n%(m:Int)).toNat
theorem AX (n:Int)(m:Nat)(h:0<m):ng n m<m:=by
 unfold ng
 have h1:=Kf n (show (m:Int)≠0 by omega);have a:=Kg n (show (0:Int)<m by omega)
 omega
theorem pV (n:Int)(m:Nat)(h:0<m):((ng n m:Nat):Int)=n%(m:Int):=by
 unfold ng
 have h1:=Kf n (show (m:Int)≠0 by omega)
 omega
theorem pN (n:Int)(m:Nat)(b:0<m)(e:n<0):(n%(m:Int)=0/\n.tmod (m:Int)=0)\/(0<n%(m:Int)/\n.tmod (m:Int)=n%(m:Int)-m):=by
 have d:=Kf n (show (m:Int)≠0 by omega);rw[Int.tmod_eq_emod]
 by_cases h:(m:Int)∣n
 ·left
  rw[if_pos (.inr h)];have:=Int.emod_eq_zero_of_dvd h;exact ⟨this,by omega⟩
 ·right
  have c:¬(n%(m:Int)=0):=fun a=>h (Int.dvd_of_emod_eq_zero a)
  rw[if_neg (by intro a;rcases a with a|a;omega;exact h a)];refine ⟨by omega,by simp⟩
def Fm (n:Int):Rat:=og ((ng n 9:Int)-4) (((ng (n.tdiv 9) 2:Nat):Int)+1)
theorem wR {n:Int}{m:Nat}(a:0<m)(h:n.tmod (m:Int)<0):n.tmod (m:Int)+m=((ng n m:Nat):Int):=by
 rw[pV n m a]
 rcases Kh n 0 with hn|hn
 ·rcases pN n m a hn with ⟨h1,h2⟩|⟨h1,h2⟩<;>omega
 ·rw[Ki hn] at h
  have:=Kf n (show (m:Int)≠0 by omega)
  omega
theorem ue {n:Int}{m:Nat}(a:0<m)(h:¬n.tmod (m:Int)<0):n.tmod (m:Int)=((ng n m:Nat):Int):=by
 rw[pV n m a]
 rcases Kh n 0 with hn|hn
 ·rcases pN n m a hn with ⟨h1,h2⟩|⟨h1,h2⟩
  ·omega
  ·have:=Kg n (show (0:Int)<m by omega)
   omega
 ·rw[Ki hn]
theorem Bp (n:Int){m:Nat}(b:0<m) : -(m:Int)<n.tmod (m:Int)/\n.tmod (m:Int)<m:=by
 have h1:=Int.tmod_lt_of_pos n (show (0:Int)<m by omega);have a:=Int.lt_tmod_of_pos n (show (0:Int)<m by omega);exact ⟨a,h1⟩
theorem G2 (n:Int)(m:Nat)(f:0<m)(i:m<1000000)(w:World)(h:Hp)(g:G w h):CV 4 #[iV n,nV m] w h (nV (ng n m)):=by
 have c:=sS g;obtain ⟨j,l⟩:=Bp n f;refine go Tryz.func4 [(0,iV n),(1,nV m)] rfl (aa c ac (aE (lL c aF (lV 7 (iV (n.tmod (m:Nat))) ?_ (hr:=dV (t:=3) (u:=3) (x:=.tmp 5) (y:=.tmp 6) (k:=.i64) (a:=n) (b:=(m:Nat)) kR kR kR oM _)))));refine lL c ac (ai (aa c ac ?_));cases d:(decide ((n.tmod (m:Nat):Int)<(0:Int)))
 .
  have e:=oF d;exact lB 9 d (ah (cK (aa c aF (af c [] (iV (n.tmod (m:Nat))) (congrArg (Value.int .i64) (ue f aM))))))
 have e:=oT d;refine lB 9 d (aj (kQ (lL c aF (lI 12 ((n.tmod (m:Nat))+(m:Nat)) ?_))));exact lL c ac (aE (lL c aF (af c [] (iV ((n.tmod (m:Nat))+(m:Nat))) (congrArg (Value.int .i64) (wR f aM)))))
abbrev RT:=Bool × Value × Value
def If (t:RT):List Value:=[.bool t.1,t.2.1,t.2.2]
def GR:RT:=(false,undef,undef)
abbrev rA (t:RT):Value:=.agg #[.bool t.1,t.2.1,t.2.2]
abbrev Sr (A:Z9)(l:List RT):Hp->Prop:=fun h_=>SlO 3 If GR h_ A l
def H6 (t:RT):Value:=.agg #[.bool t.1,t.2.1,t.2.2]
structure RTs (h:Hp) (ts:List RT) (qs:List Rat):Prop where
  len:ts.length=qs.length
  at_:∀ i,i<qs.length->RQ h (H6 (ts.getD i GR)) (qs.getD i 0)
abbrev Rt (t:List RT)(l:List Rat):Hp->Prop:=fun h_=>RTs h_ t l
theorem jP {α:Type}(l:List α)(x d:α)(i:Nat):(l++[x]).getD i d=if i<l.length then l.getD i d else if i=l.length then x else d:=by
 split
 ·rename_i h;simp[List.getElem?_append_left h]
 ·rename_i h
  split
  ·rename_i a;subst a;simp
  ·rename_i a;simp[o1 (show (l++[x]).length<=i by simp;omega)]
theorem q5 {α:Type}{l:List α}{k:Nat}(d:α)(h:k<l.length):l.take (k+1)=l.take k++[l.getD k d]:=by
 rw[List.take_add_one];simp[h]
def vc (v:Value):List Value:=[v]
abbrev Sv (A:Z9)(l:List Value):Hp->Prop:=fun h_=>SlO 1 vc undef h_ A l
def FT (zs:List Int):Prop:=∀ k,-9223372036854775808<=zs.getD k 0/\zs.getD k 0<=9223372036854775807
structure RVs (h:Hp) (vs:List Value) (qss:List (List Rat)):Prop where
  len:vs.length=qss.length
  at_:∀ i,i<qss.length->∃ A cap,∃ ts:List RT,vs.getD i undef=.slice A ts.length cap/\ts.length<=cap/\SlO 3 If GR h A ts/\RTs h ts (qss.getD i [])
abbrev Ru (t:List Value)(l:List (List Rat)):Hp->Prop:=fun h_=>RVs h_ t l
structure QVs (h:Hp) (vs:List Value) (qss:List (List Rat)):Prop where
  len:vs.length=qss.length
  at_:∀ i,i<qss.length->HF 5 qc 0 h (vs.getD i undef) (qss.getD i [])
abbrev Qu (t:List Value)(l:List (List Rat)):Hp->Prop:=fun h_=>QVs h_ t l
def Ip (a b:Rat):Rat:=if a<b then b else a
structure Lay where
  k:Int
  W:List (List Rat)
  B:List Rat
def iC:Lay:=⟨0,[],[]⟩
abbrev LV:=Int × Value × Value
def FE:LV:=(0,undef,undef)
structure NetL (h:Hp) (ts:List LV) (ls:List Lay):Prop where
  len:ts.length=ls.length
  at_:∀ i,i<ls.length->(ts.getD i FE).1=(ls.getD i iC).k/\(∃ A c,∃ us:List Value,(ts.getD i FE).2.1=.slice A us.length c/\us.length<=c/\SlO 1 vc undef h A us/\QVs h us (ls.getD i iC).W)/\HF 5 qc 0 h (ts.getD i FE).2.2 (ls.getD i iC).B
abbrev Nn (t:List LV)(l:List Lay):Hp->Prop:=fun h_=>NetL h_ t l
structure RNetL (h:Hp) (ts:List LV) (ls:List Lay):Prop where
  len:ts.length=ls.length
  at_:∀ i,i<ls.length->(ts.getD i FE).1=(ls.getD i iC).k/\(∃ A c,∃ us:List Value,(ts.getD i FE).2.1=.slice A us.length c/\us.length<=c/\SlO 1 vc undef h A us/\RVs h us (ls.getD i iC).W) /\
    (∃ A c,∃ rs:List RT,(ts.getD i FE).2.2=.slice A rs.length c/\rs.length<=c/\SlO 3 If GR h A rs/\RTs h rs (ls.getD i iC).B)
abbrev Rn (t:List LV)(l:List Lay):Hp->Prop:=fun h_=>RNetL h_ t l
def vZ (l:List Rat):Prop:=∀ q∈l,∃ z,q=Fm z
structure LayMk (L:Lay) (kq:Nat) (r c:Nat):Prop where
  k:L.k=(kq:Int)
  rows:L.W.length=r
  row:∀ q∈L.W,q.length=c/\vZ q
  bl:L.B.length=r
  bs:vZ L.B
structure LayFit (L:Lay):Prop where
  rl:L.W.length<=1000000
  rls:∀ i,i<L.W.length->(L.W.getD i []).length<=1000000
  rf:∀ i,i<L.W.length->∀ j,j<(L.W.getD i []).length->LQ 100000000 ((L.W.getD i []).getD j 0)
  bl:L.B.length<=1000000
  bf:∀ i,i<L.B.length->LQ 100000000 (L.B.getD i 0)
structure Stp where
  op:Int
  a:Int
  b:Int
  n:Int
  q:Rat
abbrev sX (p:Stp):Value:=.agg #[iV p.op,iV p.a,iV p.b,iV p.n,.bool (au p.q.num),uV (lo (ab p.q.num)),.string (hi (ab p.q.num)),uV (lo (qd p.q)),.string (hi (qd p.q))]
abbrev sC (p:Stp):List Value:=[iV p.op,iV p.a,iV p.b,iV p.n,.bool (au p.q.num),uV (lo (ab p.q.num)),.string (hi (ab p.q.num)),uV (lo (qd p.q)),.string (hi (qd p.q))]
abbrev sW (o a b n:Int)(q:Rat):Value:=.agg #[iV o,iV a,iV b,iV n,.bool (au q.num),uV (lo (ab q.num)),.string (hi (ab q.num)),uV (lo (qd q)),.string (hi (qd q))]
abbrev sG (o a b n:Int)(q:Rat):List Value:=[iV o,iV a,iV b,iV n,.bool (au q.num),uV (lo (ab q.num)),.string (hi (ab q.num)),uV (lo (qd q)),.string (hi (qd q))]
def fq:Stp:=⟨0,0,0,0,0⟩
abbrev gP (l:List Stp)(k:Nat):Stp:=l.getD k fq
def fH (op:Int):Int :=
  if op=1\/op=2 then 0 else if op=7\/op=8\/op=9\/op=10\/op=11 then 1
  else if op=3\/op=4\/op=5\/op=6\/op=12\/op=13 then 2 else -1
theorem aT (op:Int):(fH op=0/\(op=1\/op=2))\/(fH op=1/\(op=7\/op=8\/op=9\/op=10\/op=11))\/(fH op=2/\(op=3\/op=4\/op=5\/op=6\/op=12\/op=13))\/(fH op = -1/\(op<1\/13<op)):=by
 unfold fH;split
 ·exact .inl ⟨rfl,by assumption⟩
 ·split
  ·exact .inr (.inl ⟨rfl,by assumption⟩)
  ·split
   ·exact .inr (.inr (.inl ⟨rfl,by assumption⟩))
   ·exact .inr (.inr (.inr ⟨rfl,by omega⟩))
def ol (i:Nat)(tt:Int)(used:Prop):Prop:=(used->0<=tt/\tt<i)/\(¬used->tt=0)
def nq (inp:Int)(i:Nat)(s:Stp):Prop :=
  0<=fH s.op/\ol i s.a (0<fH s.op)/\ol i s.b (1<fH s.op)/\(s.op≠1->s.q.num=0) /\
  (s.op=2->0<=s.n/\s.n<inp)/\(s.op=8 -> -12<=s.n/\s.n<=12)/\(s.op≠2->s.op≠8->s.n=0)
instance (i:Nat) (tt:Int) (u:Prop) [Decidable u]:Decidable (ol i tt u):=by unfold ol;infer_instance
instance (inp:Int) (i:Nat) (s:Stp):Decidable (nq inp i s):=by unfold nq;infer_instance
def vX (n:Nat)(os:List Int):Prop:=∀ i,i<os.length->0<=os.getD i 0/\os.getD i 0<n
instance (n:Nat) (os:List Int):Decidable (vX n os):=by unfold vX;infer_instance
structure RSt where
  op:Int
  a:Int
  b:Int
  n:Int
  t:RT
def H4:RSt:=⟨0,0,0,0,GR⟩
structure OSt where
  op:Int
  a:Int
  b:Int
  n:Int
  q:Rat
  has:Bool
def Im:OSt:=⟨0,0,0,0,0,false⟩
def IS (o:OSt):Nat:=if o.has then o.q.den else 0
structure RS1 (h:Hp) (t:RSt) (o:OSt):Prop where
  op:t.op=o.op
  a:t.a=o.a
  b:t.b=o.b
  n:t.n=o.n
  q:RP h (H6 t.t) o.q.num (IS o)
  z:o.has=false->o.q=0
structure RSs (h:Hp) (ts:List RSt) (os:List OSt):Prop where
  len:ts.length=os.length
  at_:∀ i,i<os.length->RS1 h (ts.getD i H4) (os.getD i Im)
structure OSm (o:OSt):Prop where
  op : -1000<=o.op/\o.op<=1000
  a : -1000<=o.a/\o.a<=1000
  b : -1000<=o.b/\o.b<=1000
  n : -1000<=o.n/\o.n<=1000
  q:LQ 1 o.q
theorem vU {α:Type}{l:List α}{i:Nat}{d:α}(h:i<l.length):l.getD i d∈l:=by
 rw[A6,List.getElem?_eq_getElem h];exact List.getElem_mem h
theorem tp {α:Type}{l:List α}{i:Nat}{d:α}(h:l.length<=i):l.getD i d=d:=by
 rw[A6,o1 h];rfl
inductive Tm where
  | mk (op n:Int) (q:Rat) (s:ByteArray) (ks:List Tm)
def Tm.op:Tm->Int|.mk op _ _ _ _=>op
def Tm.n:Tm->Int|.mk _ n _ _ _=>n
def Tm.q:Tm->Rat|.mk _ _ q _ _=>q
def Tm.s:Tm->ByteArray|.mk _ _ _ s _=>s
def Tm.ks:Tm->List Tm|.mk _ _ _ _ ks=>ks
def cc:Tm:=.mk 0 0 0 ⟨#[]⟩ []
structure PTm where
  op:Int
  n:Int
  q:Rat
  s:ByteArray
  A:Z9
  m:Nat
  c:Nat
abbrev pX (p:PTm):Value:=.agg #[iV p.op,iV p.n,.bool (au p.q.num),uV (lo (ab p.q.num)),.string (hi (ab p.q.num)),uV (lo (qd p.q)),.string (hi (qd p.q)),.string p.s,.slice p.A p.m p.c]
abbrev pC (p:PTm):List Value:=[iV p.op,iV p.n,.bool (au p.q.num),uV (lo (ab p.q.num)),.string (hi (ab p.q.num)),uV (lo (qd p.q)),.string (hi (qd p.q)),.string p.s,.slice p.A p.m p.c]
abbrev pW (o n:Int)(q:Rat)(s:ByteArray)(A:Z9)(m c:Nat):Value:=.agg #[iV o,iV n,.bool (au q.num),uV (lo (ab q.num)),.string (hi (ab q.num)),uV (lo (qd q)),.string (hi (qd q)),.string s,.slice A m c]
abbrev pG (o n:Int)(q:Rat)(s:ByteArray)(A:Z9)(m c:Nat):List Value:=[iV o,iV n,.bool (au q.num),uV (lo (ab q.num)),.string (hi (ab q.num)),uV (lo (qd q)),.string (hi (qd q)),.string s,.slice A m c]
def a7:PTm:=⟨0,0,0,⟨#[]⟩,none,0,0⟩
def bv (p:PTm):List Value:=[.int .i64 p.op,.int .i64 p.n,.bool (au p.q.num),.int .u64 (lo (ab p.q.num)),.string (hi (ab p.q.num)),.int .u64 (lo (qd p.q)),.string (hi (qd p.q)),.string p.s,.slice p.A p.m p.c]
def a8 (p:PTm):Value:=.agg #[.int .i64 p.op,.int .i64 p.n,.bool (au p.q.num),.int .u64 (lo (ab p.q.num)),.string (hi (ab p.q.num)),.int .u64 (lo (qd p.q)),.string (hi (qd p.q)),.string p.s,.slice p.A p.m p.c]
def TmH:Nat->Hp->PTm->Tm->Prop
  | 0,_,_,_=>False
  | d+1,h,p,t=>p.op=t.op/\p.n=t.n/\p.q=t.q/\p.s=t.s/\p.m=t.ks.length/\p.m<=p.c/\∃ ps:List PTm,ps.length=t.ks.length/\SlO 9 bv a7 h p.A ps/\∀ i,i<t.ks.length->TmH d h (ps.getD i a7) (t.ks.getD i cc)
theorem TmH.gw:∀ {d:Nat} {h a:Hp} {p:PTm} {t:Tm},TmH d h p t->Gw h a->TmH d a p t
 | 0,_,_,_,_,x,_=>x
 | d+1,_,_,_,_,⟨h1,h2,h3,h4,h5,h6,ps,h7,h8,h9⟩,u=>⟨h1,h2,h3,h4,h5,h6,ps,h7,h8.gw u,fun i hi=>TmH.gw (h9 i hi) u⟩
theorem TmH.mono {h:Hp}:∀ {d e:Nat} {p:PTm} {t:Tm},TmH d h p t->d<=e->TmH e h p t
 | d+1,e+1,_,_,⟨h1,h2,h3,h4,h5,h6,ps,h7,h8,h9⟩,u=>⟨h1,h2,h3,h4,h5,h6,ps,h7,h8,fun i hi=>TmH.mono (h9 i hi) oM⟩
structure RTm where
  op:Int
  n:Int
  neg:Bool
  zA:Z9
  zn:Nat
  zc:Nat
  dA:Z9
  dn:Nat
  dc:Nat
  s:ByteArray
  A:Z9
  m:Nat
  c:Nat
def RTm.t (r:RTm):RT:=(r.neg,.slice r.zA r.zn r.zc,.slice r.dA r.dn r.dc)
def bZ:RTm:=⟨0,0,false,none,0,0,none,0,0,⟨#[]⟩,none,0,0⟩
def ax (r:RTm):List Value:=[.int .i64 r.op,.int .i64 r.n,.bool r.neg,.slice r.zA r.zn r.zc,.slice r.dA r.dn r.dc,.string r.s,.slice r.A r.m r.c]
def aY (r:RTm):Value:=.agg #[.int .i64 r.op,.int .i64 r.n,.bool r.neg,.slice r.zA r.zn r.zc,.slice r.dA r.dn r.dc,.string r.s,.slice r.A r.m r.c]
def RZ (h:Hp)(t:RT)(q:Rat):Prop:=∃ has:Bool,RP h (H6 t) q.num (if has then q.den else 0)/\(has=false->q=0)
theorem RZ.gw {h a:Hp}{t:RT}{q:Rat}(x:RZ h t q)(u:Gw h a):RZ a t q:=by
 obtain ⟨b,h1,c⟩:=x;exact ⟨b,h1.gw u,c⟩
def RmH:Nat->Hp->RTm->Tm->Prop
  | 0,_,_,_=>False
  | d+1,h,r,t=>r.op=t.op/\r.n=t.n/\RZ h r.t t.q/\r.s=t.s/\r.m=t.ks.length/\r.m<=r.c/\∃ rs:List RTm,rs.length=t.ks.length/\SlO 7 ax bZ h r.A rs/\∀ i,i<t.ks.length->RmH d h (rs.getD i bZ) (t.ks.getD i cc)
theorem RmH.gw:∀ {d:Nat} {h a:Hp} {r:RTm} {t:Tm},RmH d h r t->Gw h a->RmH d a r t
 | 0,_,_,_,_,x,_=>x
 | d+1,_,_,_,_,⟨h1,h2,h3,h4,h5,h6,ps,h7,h8,h9⟩,u=>⟨h1,h2,h3.gw u,h4,h5,h6,ps,h7,h8.gw u,fun i hi=>RmH.gw (h9 i hi) u⟩
structure Tms (d:Nat) (h:Hp) (ps:List PTm) (ts:List Tm):Prop where
  len:ps.length=ts.length
  at_:∀ i,i<ts.length->TmH d h (ps.getD i a7) (ts.getD i cc)
theorem Tms.gw {d:Nat}{h b:Hp}{ps:List PTm}{a:List Tm}(x:Tms d h ps a)(u:Gw h b):Tms d b ps a:=⟨x.len,fun i hi=>(x.at_ i hi).gw u⟩
structure Rms (d:Nat) (h:Hp) (rs:List RTm) (ts:List Tm):Prop where
  len:rs.length=ts.length
  at_:∀ i,i<ts.length->RmH d h (rs.getD i bZ) (ts.getD i cc)
theorem Rms.gw {d:Nat}{h c:Hp}{b:List RTm}{a:List Tm}(x:Rms d h b a)(u:Gw h c):Rms d c b a:=⟨x.len,fun i hi=>(x.at_ i hi).gw u⟩
theorem Rms.nil {d:Nat}{h:Hp}:Rms d h [] []:=⟨rfl,fun i hi=>by simp at hi⟩
theorem Rms.snoc {d:Nat}{h:Hp}{b:List RTm}{a:List Tm}{r:RTm}{t:Tm}(x:Rms d h b a)(y:RmH d h r t):Rms d h (b++[r]) (a++[t]):=by
 refine ⟨by simp[x.len],fun i hi=>?_⟩;rw[List.length_append,List.length_singleton] at hi
 rw[jP,jP,x.len]
 by_cases e:i<a.length
 ·rw[if_pos e,if_pos e];exact x.at_ i e
 ·rw[if_neg e,if_neg e,if_pos oM,if_pos oM];exact y
theorem Tms.nil {d:Nat}{h:Hp}:Tms d h [] []:=⟨rfl,fun i hi=>by simp at hi⟩
theorem TmH.mk {d:Nat}{h:Hp}{op n:Int}{q:Rat}{s:ByteArray}{A:Z9}{c:Nat}{ps:List PTm}{ks:List Tm}(x:Tms d h ps ks)(b:ps.length<=c)(a:SlO 9 bv a7 h A ps):TmH (d+1) h ⟨op,n,q,s,A,ps.length,c⟩ (.mk op n q s ks) :=
 ⟨rfl,rfl,rfl,rfl,x.len,b,ps,x.len,a,x.at_⟩
theorem RmH.mk {d:Nat}{h:Hp}{op n:Int}{b:Bool}{f a:Z9}{k e i j:Nat}{q:Rat}{s:ByteArray}{A:Z9}{c:Nat}{ps:List RTm}{ks:List Tm}(z:RZ h (b,.slice f k e,.slice a i j) q)(x:Rms d h ps ks)(l:ps.length<=c)(o:SlO 7 ax bZ h A ps):RmH (d+1) h ⟨op,n,b,f,k,e,a,i,j,s,A,ps.length,c⟩ (.mk op n q s ks) :=
 ⟨rfl,rfl,z,rfl,x.len,l,ps,x.len,o,x.at_⟩
theorem TmH.open {d:Nat}{h:Hp}{p:PTm}{t:Tm}(x:TmH (d+1) h p t):∃ op n q s A c,∃ ps:List PTm,∃ ks:List Tm,p=⟨op,n,q,s,A,ps.length,c⟩/\t=.mk op n q s ks/\ps.length<=c/\SlO 9 bv a7 h A ps/\Tms d h ps ks:=by
  obtain ⟨op,n,q,s,A,m,c⟩:=p;cases t with
  | mk jv n2 q2 s2 ks =>
    obtain ⟨h1,b,k,f,i,e,ps,a,j,l⟩:=x;obtain rfl:op=jv:=h1;obtain rfl:n=n2:=b;obtain rfl:q=q2:=k;obtain rfl:s=s2:=f;obtain rfl:m=ps.length:=(show m=ks.length from i).trans a.symm;exact ⟨op,n,q,s,A,c,ps,ks,rfl,rfl,e,j,a,l⟩
theorem RmH.mono {h:Hp}{d e:Nat}{p:RTm}{t:Tm}(x:RmH d h p t)(u:d<=e):RmH e h p t:=by
  induction d generalizing e p t with
  | zero=>exact x.elim
  | succ d ih =>
    cases e with
    | zero=>omega
    | succ e =>
      obtain ⟨h1,b,l,f,j,c,ps,a,k,o⟩:=x;exact ⟨h1,b,l,f,j,c,ps,a,k,fun i hi=>ih (o i hi) oM⟩
theorem RmH.open {d:Nat}{h:Hp}{p:RTm}{t:Tm}(x:RmH (d+1) h p t):∃ op n b f k e a i j q s A c,∃ ps:List RTm,∃ ks:List Tm,p=⟨op,n,b,f,k,e,a,i,j,s,A,ps.length,c⟩/\t=.mk op n q s ks/\RZ h (b,.slice f k e,.slice a i j) q/\ps.length<=c/\SlO 7 ax bZ h A ps/\Rms d h ps ks:=by
  obtain ⟨op,n,b,f,k,e,a,i,j,s,A,m,c⟩:=p;cases t with
  | mk jv n2 q2 s2 ks =>
    obtain ⟨h1,o,C,y,z,u,ps,l,B,D⟩:=x;obtain rfl:op=jv:=h1;obtain rfl:n=n2:=o;obtain rfl:s=s2:=y;obtain rfl:m=ps.length:=(show m=ks.length from z).trans l.symm;exact ⟨op,n,b,f,k,e,a,i,j,q2,s,A,c,ps,ks,rfl,rfl,C,u,B,l,D⟩
def f0 (f:Nat->Nat):Nat->Nat
  | 0=>0
  | k+1=>f0 f k+f k
def cX (n:Int):Nat:=if n.natAbs<=1 then 1 else n.natAbs
def ek:Nat->Tm->Nat
  | 0,_=>0
  | d+1,t=>if t.ks.length=0 then 1 else (if t.op=11 then 2 else if t.op=8 then cX t.n else 1)*f0 (fun i=>ek d (t.ks.getD i cc)) t.ks.length
def WfT (ok:ByteArray->Prop):Nat->Tm->Prop
  | 0,_=>False
  | d+1,t=>fH t.op=t.ks.length/\(t.op≠1->t.q=0)/\LQ 3000 t.q/\(t.op=2->ok t.s)/\(t.op≠2->t.s=⟨#[]⟩)/\(t.op≠8->t.n=0) /\ -12<=t.n/\t.n<=12/\∀ i,i<t.ks.length->WfT ok d (t.ks.getD i cc)
theorem WfT.mono {ok:ByteArray->Prop}:∀ {d e:Nat} {t:Tm},WfT ok d t->d<=e->WfT ok e t
 | d+1,e+1,_,⟨h1,h2,h3,h4,h5,h6,h7,h8,h9⟩,u=>⟨h1,h2,h3,h4,h5,h6,h7,h8,fun i hi=>WfT.mono (h9 i hi) oM⟩
def SmT (sm:ByteArray->Prop):Nat->Tm->Prop
  | 0,_=>False
  | d+1,t=>t.ks.length<=3/\(-1000<=t.op/\t.op<=1000)/\(-1000<=t.n/\t.n<=1000)/\LQ 3000 t.q/\sm t.s/\∀ i,i<t.ks.length->SmT sm d (t.ks.getD i cc)
theorem SmT.mono {sm:ByteArray->Prop}:∀ {d e:Nat} {t:Tm},SmT sm d t->d<=e->SmT sm e t
 | d+1,e+1,_,⟨h1,h2,h3,h4,h5,h6⟩,u=>⟨h1,h2,h3,h4,h5,fun i hi=>SmT.mono (h6 i hi) oM⟩
theorem WfT.sm {ok sm:ByteArray->Prop}(h:∀ s,ok s->sm s)(h0:sm ⟨#[]⟩):∀ {d:Nat} {t:Tm},WfT ok d t->SmT sm d t
  | d+1,t,⟨h1,h2,h3,h4,h5,h6,h7,h8,h9⟩=>by
    have a:=aT t.op;refine ⟨by omega,⟨by omega,by omega⟩,⟨by omega,by omega⟩,h3,?_,fun i hi=>WfT.sm h h0 (h9 i hi)⟩
    by_cases e:t.op=2
    . exact h _ (h4 e)
    . rw[h5 e];exact h0
def FY (ok:ByteArray->Prop):Nat->Tm->Prop
  | 0,_=>False
  | d+1,t=>fH t.op=t.ks.length/\(t.op≠1->t.q=0)/\LQ 1 t.q/\(t.op=2->ok t.s)/\(t.op≠2->t.s=⟨#[]⟩)/\(t.op≠8->t.n=0) /\ -12<=t.n/\t.n<=12/\∀ i,i<t.ks.length->FY ok d (t.ks.getD i cc)
def Ix (isb:ByteArray->Bool)(op n:Int)(q:Rat)(s:ByteArray)(m:Nat):Prop:=fH op=m/\(op=1\/q.num=0)/\((op=2->isb s=true)/\(op≠2->s=⟨#[]⟩))/\((op=8\/n=0) /\ -12<=n/\n<=12)
section
variable {isb:ByteArray->Bool}{d:Nat}{op n:Int}{q:Rat}{s:ByteArray}{ks:List Tm}
theorem Bc (w:WfT (fun s=>isb s=true) (d+1) (.mk op n q s ks)):Ix isb op n q s ks.length:=by
 obtain ⟨h1,f,j,c,i,h,b,a,k⟩:=w;refine ⟨h1,?_,⟨c,i⟩,?_,b,a⟩
 ·by_cases e:op=1
  ·exact .inl e
  ·exact .inr (Kj.2 (f e))
 ·by_cases e:op=8
  ·exact .inl e
  ·exact .inr (h e)
theorem oy (h:¬Ix isb op n q s ks.length):∃ a,Value.bool false=.bool a/\(a=true↔WfT (fun s=>isb s=true) (d+1) (.mk op n q s ks)):=⟨false,rfl,fun b=>(by cases b),fun w=>absurd (Bc w) h⟩
theorem C3 {k:Nat}(e:k<ks.length){c:Bool}(b:c=false)(h:c=true↔WfT (fun s=>isb s=true) d (ks.getD k cc)):∃ a,Value.bool false=.bool a/\(a=true↔WfT (fun s=>isb s=true) (d+1) (.mk op n q s ks)):=⟨false,rfl,fun f=>(by cases f),fun ⟨_,_,_,_,_,_,_,_,i⟩=>by rw[h.2 (i k e)] at b;cases b⟩
theorem C9 (h:Ix isb op n q s ks.length)(o:LQ 3000 q)(l:∀ i,i<ks.length->WfT (fun s=>isb s=true) d (ks.getD i cc)):∃ a,Value.bool true=.bool a/\(a=true↔WfT (fun s=>isb s=true) (d+1) (.mk op n q s ks)):=by
 obtain ⟨h1,k,⟨f,j⟩,p,c,b⟩:=h;refine ⟨true,rfl,fun _=>⟨h1,fun e=>Kj.1 (k.resolve_left e),o,f,j,fun e=>p.resolve_left e,c,b,l⟩,fun _=>rfl⟩
end
def FJ (nm:Int->ByteArray)(l:List Stp):Nat->Nat->Tm
  | 0,_=>cc
  | f+1,i =>
    if (l.getD i fq).op=2 then .mk 2 0 0 (nm (l.getD i fq).n) []
    else if fH (l.getD i fq).op=1 then .mk (l.getD i fq).op (l.getD i fq).n 0 ⟨#[]⟩ [FJ nm l f (l.getD i fq).a.toNat]
    else if fH (l.getD i fq).op=2 then .mk (l.getD i fq).op 0 0 ⟨#[]⟩ [FJ nm l f (l.getD i fq).a.toNat,FJ nm l f (l.getD i fq).b.toNat]
    else .mk (l.getD i fq).op 0 (l.getD i fq).q ⟨#[]⟩ []
structure MapJ (h0:Hp) (B:List Bx) (w:World) (h:Hp) (b:Nat) (es:List MapEntry) (clk:Nat):Prop where
  obj:w.heap[b]?=some (.map es.toArray clk)
  jk:h[b]?=some junk
  lo:h0.size<=b
  nb:∀ x∈B,x.b≠b
def MapS (h:Hp)(b:Nat)(es:List MapEntry):Prop:=∃ clk,h[b]?=some (.map es.toArray clk)
theorem MapS.gw {h d:Hp}{b:Nat}{a:List MapEntry}(x:MapS h b a)(u:Gw h d):MapS d b a:=by
 obtain ⟨c,e⟩:=x;refine ⟨c,?_⟩
 rcases u.blk b (aI e) with k|k
 ·exact k.trans e
 ·rw[e] at k;cases k
theorem MapS.w {w:World}{h:Hp}{b:Nat}{d:List MapEntry}(x:MapS h b d)(g:G w h):∃ a,w.heap[b]?=some (.map d.toArray a):=by
 obtain ⟨c,e⟩:=x;refine ⟨c,?_⟩
 rcases g.blk b with k|k
 ·rw[<-k];exact e
 ·rw[e] at k;cases k
theorem B8 {P:Program}(w:World){c d l:TypeId}{b a:Nat}{e:Array MapEntry}{s:ByteArray}{val:Value}(i:P.underlying c=some (.map d l))(h:P.underlying d=some .string)(f:w.heap[b]?=some (.map e a))(hf:Instr.findNow .string (.string s) e.toList 0=some none) :
  (Instr.mapUpdate c (.map (some b)) (.string s) val).run P w=.ok () { w with heap:=w.heap.setIfInBounds b (.map (e.push { key:=.string s,val:=val,born:=a }) (a+1)) }:=by
 have j:(Instr.checkKey false 10000 d (.string s)).run P w=.ok () w:=MapKept.run_checkKey (k:=.string s) h (by simp[MapKept.IsKey]) false 9999
 simp[Instr.mapUpdate,run_underlying i,MapKept.run_getObj_map f,j,MapKept.run_findKey h hf,MapKept.run_setObj_map _ f,Result.andThen]
theorem xo {P:Program}(w:World){a d l:TypeId}{b e:Nat}{c:Array MapEntry}{s:ByteArray}(ok:Bool){v:Value}{found:Bool}(h:P.underlying a=some (.map d l))(f:P.underlying d=some .string)(o:w.heap[b]?=some (.map c e))
  (hf:(∃ i,Instr.findNow .string (.string s) c.toList 0=some (some (i,v))/\found=true)\/(Instr.findNow .string (.string s) c.toList 0=some none/\found=false/\(zeroValue l).run P w=.ok v w)) :
  (Instr.lookup a (.map (some b)) (.string s) ok).run P w=.ok (if ok then .tuple #[v,.bool found] else v) w:=by
 have j:(Instr.checkKey c.isEmpty 10000 d (.string s)).run P w=.ok () w:=MapKept.run_checkKey (k:=.string s) f (by simp[MapKept.IsKey]) _ 9999
 rcases hf with ⟨i,hf,rfl⟩|⟨hf,rfl,hz⟩
 ·simp[Instr.lookup,run_underlying h,MapKept.run_getObj_map o,j,MapKept.run_findKey f hf,Result.andThen]
 ·simp[Instr.lookup,run_underlying h,MapKept.run_getObj_map o,j,MapKept.run_findKey f hf,hz,Result.andThen]
theorem AV {w:World}{b:Nat}{o o':Obj}(e:w.heap[b]?=some o):Put b w { w with heap:=w.heap.setIfInBounds b o' }/\({ w with heap:=w.heap.setIfInBounds b o' }:World).heap[b]?=some o':=by
 have a:b<w.heap.size:=(g3.1 e).1;refine ⟨⟨rfl,rfl,rfl,by simp,fun c d=>by show (w.heap.setIfInBounds b o')[c]?=_;rw[g6 (Ne.symm d)]⟩,?_⟩
 show (w.heap.setIfInBounds b o')[b]?=_
 rw[u9 a]
section laws
variable {P:Program}{n:Nat}{N R:Po}{X:Nat->Po}{ops:Array Oper}{k:Nat}{Γ:ck}{w:World}{h:Hp}{w0:World}{h0:Hp}{B:List Bx}{Rs:List Rw}{F:List (Hp->Prop)}
theorem SS.pokeJ (s:SS w0 h0 w h B [] F){b:Nat}{w':World}(e:h[b]?=some junk)(d:h0.size<=b)(c:∀ x∈B,x.b≠b)(p:Put b w w'):SS w0 h0 w' h B [] F :=
 ⟨s.g0,⟨s.st.up.put p e d s.g0.size,fun x a=>(p.blk _ (c x a)).trans (s.st.own x a),s.st.jk,s.st.lo,s.st.nd⟩,fun _ a=>(by cases a),.nil,s.mo,s.f⟩
theorem IR (t:Nat)(s:SS w0 h0 w h B Rs F)(H:∀ b w' h',SS w0 h0 w' h' B Rs F->MapJ h0 B w' h' b [] 0->LG P n N R X ops (k+1) ((t,.map (some b))::Γ) w')(a:cL ops Γ k t n=true:=by kernel_rfl)
  (hr:(execOp (ev Γ) (av ops k)).run P w=.ok (.value (.map (some w.heap.size))) (w.alloc (.map #[] 0)):=by kernel_rfl):LG P n N R X ops k Γ w:=by
 have u:Up w h (w.alloc (.map #[] 0)) (h.push junk):=Up.allocAny s.g _ _ (.inr rfl);refine LG.val t _ _ (bS a).1 (bS a).2 hr (H _ _ _ (s.step u) ⟨?_,?_,?_,fun x c e=>?_⟩)
 ·rw[dw];exact e0
 ·rw[s.g.size];exact e0
 ·rw[s.g.size];exact s.st.sz
 ·have:=aI (s.st.jk x c)
  have:=s.g.size
  omega
theorem Gc {b a:Nat}{d:List MapEntry}(c f i:TypeId)(ky:ByteArray)(val:Value)(s:SS w0 h0 w h B [] F)(m:MapJ h0 B w h b d a)(H:∀ w',SS w0 h0 w' h B [] F->MapJ h0 B w' h b (d++[⟨.string ky,val,a⟩]) (a+1)->LG P n N R X ops (k+1) Γ w')
  (e:cS ops Γ k=true:=by kernel_rfl)(j:execOp (ev Γ) (av ops k)=(do Instr.mapUpdate c (.map (some b)) (.string ky) val;pure .skip):=by kernel_rfl)(hu:P.underlying c=some (.map f i):=by kernel_rfl)(l:P.underlying f=some .string:=by kernel_rfl)(hf:Instr.findNow .string (.string ky) d 0=some none:=by kernel_rfl):LG P n N R X ops k Γ w:=by
 have hr:=B8 w (val:=val) hu l m.obj hf;obtain ⟨p,o⟩:=AV (o':=.map (d.toArray.push { key:=.string ky,val:=val,born:=a }) (a+1)) m.obj;refine LG.store _ (kl e).1 (kl e).2 ?_ (H _ (s.pokeJ m.jk m.lo m.nb p) ⟨?_,m.jk,m.lo,m.nb⟩)
 ·rw[j];simp[hr,Result.andThen]
 ·rw[o];simp
theorem In (t:Nat){b:Nat}{c:List MapEntry}(a f e:TypeId)(ky:ByteArray)(ok:Bool)(v:Value)(found:Bool)(s:SS w0 h0 w h B Rs F)(m:MapS h b c)(H:LG P n N R X ops (k+1) ((t,if ok then .tuple #[v,.bool found] else v)::Γ) w)(d:cL ops Γ k t n=true:=by kernel_rfl)
  (l:execOp (ev Γ) (av ops k)=(do pure (.value (<-Instr.lookup a (.map (some b)) (.string ky) ok))):=by kernel_rfl)(hu:P.underlying a=some (.map f e):=by kernel_rfl)(o:P.underlying f=some .string:=by kernel_rfl)
  (hf:(∃ i,Instr.findNow .string (.string ky) c 0=some (some (i,v))/\found=true)\/(Instr.findNow .string (.string ky) c 0=some none/\found=false/\∀ w,(zeroValue e).run P w=.ok v w)):LG P n N R X ops k Γ w:=by
 obtain ⟨p,j⟩:=m.w s.g;refine LG.val t _ w (bS d).1 (bS d).2 ?_ H;rw[l];have hr:=xo w ok (v:=v) (found:=found) hu o j (hf.imp id fun h=>⟨h.1,h.2.1,h.2.2 w⟩)
 simp[hr,Result.andThen]
theorem SS.pubMap {b a:Nat}{j:List MapEntry}(s:SS w0 h0 w h B [] F)(m:MapJ h0 B w h b j a):∃ k,SS w0 h0 w k B [] F/\MapS k b j:=by
 have d:=aI m.jk;refine ⟨h.setIfInBounds b (.map j.toArray a),⟨s.g0,⟨⟨s.st.up.ext,⟨by simp;exact s.st.up.gr.size,fun c l=>?_⟩,⟨by simp;exact s.st.up.g.size,fun c=>?_⟩⟩,s.st.own,fun x i=>?_,s.st.lo,s.st.nd⟩,fun _ i=>(by cases i),.nil,s.mo,s.f.gw s.mo ⟨by simp,fun c _=>?_⟩⟩,a,?_⟩
 ·have:=m.lo
  rw[g6 oM];exact s.st.up.gr.blk c l
 ·by_cases e:b=c
  ·subst e;left;rw[u9 d];exact m.obj.symm
  ·rw[g6 e];exact s.st.up.g.blk c
 ·rw[g6 (Ne.symm (m.nb x i))];exact s.st.jk x i
 ·by_cases e:b=c
  ·subst e;exact .inr m.jk
  ·left;rw[g6 e]
 ·rw[u9 d]
end laws
def dI (c:Nat):Prop:=(97<=c/\c<=122)\/(65<=c/\c<=90)
def kd (c:Nat):Prop:=((97<=c/\c<=122)\/(65<=c/\c<=90))\/(48<=c/\c<=57)\/c=95
instance (c:Nat):Decidable (dI c):=by unfold dI;infer_instance
instance (c:Nat):Decidable (kd c):=by unfold kd;infer_instance
def ag (s:ByteArray):Int:=if s=⟨#[97,98,115]⟩ then 9 else if s=⟨#[114,97,109,112]⟩ then 10 else if s=⟨#[98,101,110,100]⟩ then 11 else if s=⟨#[109,97,120]⟩ then 12 else if s=⟨#[109,105,110]⟩ then 13 else 0
def gH (s:ByteArray):Int:=if ag s=0 then 0 else if ag s<=11 then 1 else 2
def bU (s:ByteArray):Bool:=decide (ag s≠0)
def cD (s:ByteArray):Bool:=decide (1<=s.size/\s.size<=20/\dI (ak s 0)/\(∀ i,i<s.size->kd (ak s i))/\bU s=false)
theorem mB {s:ByteArray}(h:¬(1<=s.size/\s.size<=20/\dI (ak s 0))):Value.bool false=.bool (cD s):=congrArg Value.bool (decide_eq_false fun x=>h ⟨x.1,x.2.1,x.2.2.1⟩).symm
theorem Dp {s:ByteArray}{i:Nat}(h:i<s.size)(a:¬kd (ak s i)):Value.bool false=.bool (cD s):=congrArg Value.bool (decide_eq_false fun x=>a (x.2.2.2.1 i h)).symm
theorem Bj {s:ByteArray}(h1:1<=s.size/\s.size<=20)(b:dI (ak s 0))(a:∀ i,i<s.size->kd (ak s i)):cD s = !bU s:=by
 unfold cD
 cases h:bU s
 ·exact decide_eq_true ⟨h1.1,h1.2,b,a,rfl⟩
 ·exact decide_eq_false fun x=>by cases x.2.2.2.2
def gO:List MapEntry:=[⟨.string ⟨#[97,98,115]⟩,.int .i64 9,0⟩,⟨.string ⟨#[114,97,109,112]⟩,.int .i64 10,1⟩,⟨.string ⟨#[98,101,110,100]⟩,.int .i64 11,2⟩,⟨.string ⟨#[109,97,120]⟩,.int .i64 12,3⟩,⟨.string ⟨#[109,105,110]⟩,.int .i64 13,4⟩]
theorem ox (s:ByteArray):(∃ i,Instr.findNow .string (.string s) gO 0=some (some (i,.int .i64 (ag s)))/\bU s=true)\/(Instr.findNow .string (.string s) gO 0=some none/\bU s=false/\ag s=0):=by
 by_cases h1:s=⟨#[97,98,115]⟩
 ·subst h1;exact .inl ⟨0,by kernel_rfl,by decide⟩
 by_cases h2:s=⟨#[114,97,109,112]⟩
 ·subst h2;exact .inl ⟨1,by kernel_rfl,by decide⟩
 by_cases h3:s=⟨#[98,101,110,100]⟩
 ·subst h3;exact .inl ⟨2,by kernel_rfl,by decide⟩
 by_cases h4:s=⟨#[109,97,120]⟩
 ·subst h4;exact .inl ⟨3,by kernel_rfl,by decide⟩
 by_cases h5:s=⟨#[109,105,110]⟩
 ·subst h5;exact .inl ⟨4,by kernel_rfl,by decide⟩
 have f:ag s=0:=by unfold ag;rw[if_neg h1,if_neg h2,if_neg h3,if_neg h4,if_neg h5]
 refine .inr ⟨?_,by unfold bU;rw[f];rfl,f⟩
 rcases MapKept.findNow_spec (d:=.string) (k:=.string s) (by simp[MapKept.IsKey]) gO 0 (fun x h=>by
  simp only[gO,List.mem_cons,List.not_mem_nil,or_false] at h
  rcases h with rfl|rfl|rfl|rfl|rfl<;>simp[MapKept.IsKey]) with ⟨a,_⟩|⟨j,e,a,b,c⟩
 ·exact a
 ·exfalso
  match j,b with
  | 0,b=>injection b with b;subst b;injection c with c;exact h1 c.symm
  | 1,b=>injection b with b;subst b;injection c with c;exact h2 c.symm
  | 2,b=>injection b with b;subst b;injection c with c;exact h3 c.symm
  | 3,b=>injection b with b;subst b;injection c with c;exact h4 c.symm
  | 4,b=>injection b with b;subst b;injection c with c;exact h5 c.symm
  | n+5,b=>cases b
def pD (p:Nat->Bool)(s:ByteArray):Nat->Nat->Nat
  | 0,a=>a
  | f+1,a=>if a<s.size/\p (ak s a)=true then pD p s f (a+1) else a
def rn (p:Nat->Bool)(s:ByteArray)(a:Nat):Nat:=pD p s (s.size-a) a
theorem qM (p:Nat->Bool)(s:ByteArray):∀ f a,a<=pD p s f a
  | 0,a=>eb a
  | f+1,a=>by
    unfold pD;split
    . exact ed (Nat.le_succ a) (qM p s f (a+1))
    . exact eb a
theorem xH (p:Nat->Bool)(s:ByteArray):∀ f a,a<=s.size->pD p s f a<=s.size
  | 0,a,h=>h
  | f+1,a,h=>by
    unfold pD;split
    . rename_i c;exact xH p s f (a+1) c.1
    . exact h
theorem f4 (p:Nat->Bool)(s:ByteArray)(a:Nat):a<=rn p s a:=qM p s _ a
theorem dB {p:Nat->Bool}{s:ByteArray}{a:Nat}(h:a<=s.size):rn p s a<=s.size:=xH p s _ a h
theorem wN {p:Nat->Bool}{s:ByteArray}{j:Nat}:∀ f a,s.size-a<=f->a<=j->j<=s.size->(∀ i,a<=i->i<j->p (ak s i)=true)->(j=s.size\/p (ak s j)=false)->pD p s f a=j
  | 0,a,h1,h2,h3,_,_=>by show a=j;omega
  | f + 1,a,h1,h2,h3,h4,h5=>by
    unfold pD
    by_cases e:a=j
    . subst e
      rw[if_neg];rintro ⟨d,b⟩
      rcases h5 with h5|h5
      . omega
      . rw[h5] at b;cases b
    . rw[if_pos ⟨by omega,h4 a (eb a) oM⟩]
      exact wN f (a+1) oM oM h3 (fun i hi c=>h4 i oM c) h5
theorem dy {p:Nat->Bool}{s:ByteArray}{a j:Nat}(d:a<=j)(c:j<=s.size)(b:∀ i,a<=i->i<j->p (ak s i)=true)(e:j=s.size\/p (ak s j)=false):rn p s a=j:=wN _ a (eb _) d c b e
theorem je (p:Nat->Bool)(s:ByteArray):∀ f a,s.size-a<=f->pD p s f a<s.size->p (ak s (pD p s f a))=false
  | 0,a,h1,b=>by
    have b:a<s.size:=b
    omega
  | f + 1,a,h1,b=>by
    unfold pD at b ⊢
    split
    . rename_i c;rw[if_pos c] at b;exact je p s f (a+1) oM b
    . rename_i c;rw[if_neg c] at b
      cases h:p (ak s a) with
      | true=>exact absurd ⟨b,h⟩ c
      | false=>rfl
def vY (c:Nat):Bool:=decide (c=32)
def bM (c:Nat):Bool:=decide (48<=c/\c<=57)
def cH (c:Nat):Bool:=decide ((48<=c/\c<=57)\/c=46)
def bF (c:Nat):Bool:=decide (kd c)
def cf (c:Nat):Bool:=decide (c≠93)
def sk (s:ByteArray)(a:Nat):Nat:=rn vY s a
theorem eF (s:ByteArray)(a:Nat):a<=sk s a:=f4 _ s a
theorem bB {s:ByteArray}{a:Nat}(h:a<=s.size):sk s a<=s.size:=dB h
theorem pF (s:ByteArray)(a:Nat):sk s (sk s a)=sk s a:=by
 rcases co (sk s a) s.size with h1|h1
 ·exact dy (eb _) (Nat.le_of_lt h1) (fun i b c=>absurd b oM) (.inr (je vY s (s.size-a) a (eb _) h1))
 ·show pD vY s (s.size-sk s a) (sk s a)=sk s a
  rw[show s.size-sk s a=0 by omega];rfl
theorem cw {s:ByteArray}{a:Nat}(h:s.size<=a):ak s a=0:=by
 unfold ak
 rw[A6,o1 (by simpa using h)];rfl
theorem cn {s:ByteArray}{a:Nat}(h:ak s a≠0):a<s.size:=by
 rcases co a s.size with h1|h1
 ·exact h1
 ·exact absurd (cw h1) h
inductive PR where
  | ok (t:Tm) (a:Nat)
  | err (b:Nat)
inductive PKd where
  | sum|prod|sign|pow|atom
  | call (op:Int)
  | more (lv:Bool) (t:Tm)
def fQ (op:Int)(t:Tm):Tm:=.mk op 0 0 ⟨#[]⟩ [t]
def bz (op:Int)(t u:Tm):Tm:=.mk op 0 0 ⟨#[]⟩ [t,u]
def dl (q:Rat):Tm:=.mk 1 0 q ⟨#[]⟩ []
def dC (s:ByteArray):Tm:=.mk 2 0 0 s []
def fT (x:Option PR)(f:Tm->Nat->Option PR):Option PR:=match x with
  | none=>none
  | some (.ok t a)=>f t a
  | some (.err b)=>some (.err b)
def dv (s:ByteArray):Nat->Nat
  | 0=>0
  | n+1=>dv s n*10+(ak s n-48)
def fM (s:ByteArray):Option Nat:=if s.size=0\/(1<s.size/\ak s 0=48)\/¬(∀ i,i<s.size->bM (ak s i)=true) then none else some (dv s s.size)
theorem jU {x:ByteArray}{k:Nat}(h:fM x=some k):1<=x.size/\(1<x.size->ak x 0≠48)/\(∀ i,i<x.size->48<=ak x i/\ak x i<=57)/\k=dv x x.size:=by
 unfold fM at h
 by_cases c:x.size=0\/(1<x.size/\ak x 0=48)\/¬(∀ i,i<x.size->bM (ak x i)=true)
 ·rw[if_pos c] at h;cases h
 ·rw[if_neg c] at h;injection h with h
  refine ⟨by omega,fun h1 a=>c (.inr (.inl ⟨h1,a⟩)),fun i hi=>?_,h.symm⟩;exact oT (Decidable.byContradiction fun a=>c (.inr (.inr (fun b=>a (b i hi)))))
theorem hC {x:ByteArray}:∀ n,(∀ i,i<n->48<=ak x i/\ak x i<=57)->dv x n<10^n
  | 0,_=>Nat.one_pos
  | n+1,h=>by
    have h1:=hC n (fun i hi=>h i oM);have a:=h n oM
    show dv x n*10+(ak x n-48)<10^(n+1)
    rw[zy];omega
theorem i9 {x:ByteArray}{k:Nat}(h:fM x=some k)(a:x.size<=3):k<=999:=by
 obtain ⟨h1,_,b,rfl⟩:=jU h;have c:=hC x.size b;have d:10^x.size<=10^3:=Aa kD a
 omega
def c1 (lv:Bool):Nat:=if lv then 42 else 43
def c2 (lv:Bool):Nat:=if lv then 47 else 45
def km (lv:Bool):Int:=if lv then 5 else 3
def jv (lv:Bool):Int:=if lv then 6 else 4
def part (lv:Bool):PKd:=if lv then .sign else .prod
def iW (s:ByteArray)(t:Tm)(a:Nat):PR :=
  let m:Bool:=decide (ak s (sk s a)=45)
  let b:=sk s (if m then sk s a+1 else sk s a)
  let e:=rn bM s b
  if 3<e-b then .err b else match fM (s.extract b e) with
    | none=>.err b
    | some k=>.ok (.mk 8 (if m then -(k:Int) else k) 0 ⟨#[]⟩ [t]) e
section
variable (nf bf:ByteArray->Option Rat)(s:ByteArray)
def bn : Nat->PKd->Nat->Option PR
  | 0,_,_=>none
  | n+1,.sum,a=>fT (bn n .prod a) fun t b=>bn n (.more false t) b
  | n+1,.prod,a=>fT (bn n .sign a) fun t b=>bn n (.more true t) b
  | n+1,.more lv t,a =>
    if ak s (sk s a)=c1 lv then fT (bn n (part lv) (sk s a+1)) fun u b=>bn n (.more lv (bz (km lv) t u)) b
    else if ak s (sk s a)=c2 lv then fT (bn n (part lv) (sk s a+1)) fun u b=>bn n (.more lv (bz (jv lv) t u)) b
    else some (.ok t (sk s a))
  | n+1,.sign,a=>if ak s (sk s a)=45 then fT (bn n .sign (sk s a+1)) fun t b=>some (.ok (fQ 7 t) b) else bn n .pow (sk s a)
  | n+1,.pow,a=>fT (bn n .atom a) fun t b=>if ak s (sk s b)=94 then some (iW s t (sk s b+1)) else some (.ok t (sk s b))
  | n + 1,.atom,a =>
    if cH (ak s (sk s a))=true then match nf (s.extract (sk s a) (rn cH s (sk s a))) with
      | some q=>some (.ok (dl q) (rn cH s (sk s a)))
      | none=>some (.err (sk s a))
    else if dI (ak s (sk s a))\/ak s (sk s a)=95 then
      if bU (s.extract (sk s a) (rn bF s (sk s a)))=true then bn n (.call (ag (s.extract (sk s a) (rn bF s (sk s a))))) (rn bF s (sk s a))
      else if cD (s.extract (sk s a) (rn bF s (sk s a)))=true then some (.ok (dC (s.extract (sk s a) (rn bF s (sk s a)))) (rn bF s (sk s a)))
      else some (.err (sk s a))
    else if ak s (sk s a)=91 then
      if rn cf s (sk s a+1)=s.size then some (.err (sk s a)) else match bf (s.extract (sk s a+1) (rn cf s (sk s a+1))) with
      | some q=>some (.ok (dl q) (rn cf s (sk s a+1)+1))
      | none=>some (.err (sk s a))
    else if ak s (sk s a)=40 then fT (bn n .sum (sk s a+1)) fun t b=>if ak s (sk s b)=41 then some (.ok t (sk s b+1)) else some (.err (sk s b))
    else some (.err (sk s a))
  | n + 1,.call op,a =>
    if ak s (sk s a)=40 then fT (bn n .sum (sk s a+1)) fun t b =>
      if op=12\/op=13 then
        if ak s (sk s b)=44 then fT (bn n .sum (sk s b+1)) fun u c=>if ak s (sk s c)=41 then some (.ok (bz op t u) (sk s c+1)) else some (.err (sk s c))
        else some (.err (sk s b))
      else if ak s (sk s b)=41 then some (.ok (fQ op t) (sk s b+1)) else some (.err (sk s b))
    else some (.err (sk s a))
variable {nf bf s}
theorem fE {x:Option PR}{f:Tm->Nat->Option PR}{t:Tm}{b:Nat}(h:fT x f=some (.ok t b)):∃ u a,x=some (.ok u a)/\f u a=some (.ok t b):=by
 match x,h with
 | some (.ok u a),h=>exact ⟨u,a,rfl,h⟩
def tK (lv:Bool):PKd:=if lv then .prod else .sum
section
variable {n a b:Nat}{t u:Tm}{lv:Bool}{op:Int}
theorem ik {k:PKd}{r:PR}(h:bn nf bf s n k a=some r):∃ m,n=m+1:=by
 cases n with
 | zero=>cases h
 | succ m=>exact ⟨m,rfl⟩
theorem jw (h:bn nf bf s (n+1) (tK lv) a=some (.ok t b)):∃ u c,bn nf bf s n (part lv) a=some (.ok u c)/\bn nf bf s n (.more lv u) c=some (.ok t b):=by
 cases lv<;>exact fE h
theorem jM (h:bn nf bf s (n+1) (.more lv u) a=some (.ok t b))(c:ak s (sk s a)=c1 lv):∃ v e,bn nf bf s n (part lv) (sk s a+1)=some (.ok v e)/\bn nf bf s n (.more lv (bz (km lv) u v)) e=some (.ok t b):=by
 unfold bn at h;rw[if_pos c] at h;exact fE h
theorem jG (h:bn nf bf s (n+1) (.more lv u) a=some (.ok t b))(d:ak s (sk s a)≠c1 lv)(c:ak s (sk s a)=c2 lv):∃ v e,bn nf bf s n (part lv) (sk s a+1)=some (.ok v e)/\bn nf bf s n (.more lv (bz (jv lv) u v)) e=some (.ok t b):=by
 unfold bn at h;rw[if_neg d,if_pos c] at h;exact fE h
theorem jy (h:bn nf bf s (n+1) (.more lv u) a=some (.ok t b))(d:ak s (sk s a)≠c1 lv)(c:ak s (sk s a)≠c2 lv):t=u/\b=sk s a:=by
 unfold bn at h;rw[if_neg d,if_neg c] at h;injection h with h;injection h with h1 h2;exact ⟨h1.symm,h2.symm⟩
theorem nS (h:bn nf bf s (n+1) .sign a=some (.ok t b))(c:ak s (sk s a)=45):∃ v,bn nf bf s n .sign (sk s a+1)=some (.ok v b)/\t=fQ 7 v:=by
 unfold bn at h;rw[if_pos c] at h
 obtain ⟨v,e,h1,d⟩:=fE h
 injection d with d;injection d with d h3;subst h3;exact ⟨v,h1,d.symm⟩
theorem iu (h:bn nf bf s (n+1) .sign a=some (.ok t b))(c:ak s (sk s a)≠45):bn nf bf s n .pow (sk s a)=some (.ok t b):=by
 unfold bn at h;rw[if_neg c] at h;exact h
theorem nF (h:bn nf bf s (n+1) .pow a=some (.ok t b)):∃ v e,bn nf bf s n .atom a=some (.ok v e)/\(ak s (sk s e)≠94->t=v/\b=sk s e)/\(ak s (sk s e)=94->iW s v (sk s e+1)=.ok t b):=by
 unfold bn at h
 obtain ⟨v,e,h1,d⟩:=fE h;refine ⟨v,e,h1,fun c=>?_,fun c=>?_⟩
 ·rw[if_neg c] at d;injection d with d;injection d with d h3;exact ⟨d.symm,h3.symm⟩
 ·rw[if_pos c] at d;injection d
theorem oe {v:Tm}(h:iW s v a=.ok t b):∃ k,fM (s.extract (sk s (if ak s (sk s a)=45 then sk s a+1 else sk s a)) b)=some k/\b=rn bM s (sk s (if ak s (sk s a)=45 then sk s a+1 else sk s a))/\b-sk s (if ak s (sk s a)=45 then sk s a+1 else sk s a)<=3/\t=.mk 8 (if ak s (sk s a)=45 then -(k:Int) else k) 0 ⟨#[]⟩ [v]:=by
  have d:∀ x y:Nat,(if decide (ak s (sk s a)=45)=true then x else y)=if ak s (sk s a)=45 then x else y:=fun x y=>by by_cases c:ak s (sk s a)=45<;>simp[c]
  have e:∀ x y:Int,(if decide (ak s (sk s a)=45)=true then x else y)=if ak s (sk s a)=45 then x else y:=fun x y=>by by_cases c:ak s (sk s a)=45<;>simp[c]
  unfold iW at h
  dsimp only at h
  rw[d] at h
  generalize sk s (if ak s (sk s a)=45 then sk s a+1 else sk s a)=B at h ⊢
  by_cases c:3<rn bM s B-B
  . rw[if_pos c] at h;cases h
  . rw[if_neg c] at h
    revert h
    cases f:fM (s.extract B (rn bM s B)) with
    | none=>intro h;cases h
    | some k =>
      intro h
      injection h with h1 h2
      subst h2;rw[e] at h1
      exact ⟨k,f,rfl,by omega,h1.symm⟩
section
variable (h:bn nf bf s (n+1) .atom a=some (.ok t b))
include h
theorem nK (c:cH (ak s (sk s a))=true):∃ q,nf (s.extract (sk s a) (rn cH s (sk s a)))=some q/\t=dl q/\b=rn cH s (sk s a):=by
 unfold bn at h;rw[if_pos c] at h
 split at h
 ·rename_i q d;injection h with h;injection h with h1 h2;exact ⟨q,d,h1.symm,h2.symm⟩
 ·cases h
variable (c0:cH (ak s (sk s a))=false)
include c0
theorem rq (c:dI (ak s (sk s a))\/ak s (sk s a)=95)(d:bU (s.extract (sk s a) (rn bF s (sk s a)))=true):bn nf bf s n (.call (ag (s.extract (sk s a) (rn bF s (sk s a))))) (rn bF s (sk s a))=some (.ok t b):=by
 unfold bn at h;rw[if_neg (by rw[c0];decide),if_pos c,if_pos d] at h;exact h
theorem oh (c:dI (ak s (sk s a))\/ak s (sk s a)=95)(d:bU (s.extract (sk s a) (rn bF s (sk s a)))=false):cD (s.extract (sk s a) (rn bF s (sk s a)))=true/\t=dC (s.extract (sk s a) (rn bF s (sk s a)))/\b=rn bF s (sk s a):=by
 unfold bn at h;rw[if_neg (by rw[c0];decide),if_pos c,if_neg (by rw[d];decide)] at h
 split at h
 ·rename_i e;injection h with h;injection h with h1 h2;exact ⟨e,h1.symm,h2.symm⟩
 ·cases h
variable (cL:¬(dI (ak s (sk s a))\/ak s (sk s a)=95))
include cL
theorem p9 (c:ak s (sk s a)=91):rn cf s (sk s a+1)≠s.size/\∃ q,bf (s.extract (sk s a+1) (rn cf s (sk s a+1)))=some q/\t=dl q/\b=rn cf s (sk s a+1)+1:=by
 unfold bn at h;rw[if_neg (by rw[c0];decide),if_neg cL,if_pos c] at h
 split at h
 ·cases h
 ·rename_i d
  split at h
  ·rename_i q e;injection h with h;injection h with h1 h2;exact ⟨d,q,e,h1.symm,h2.symm⟩
  ·cases h
variable (c9:ak s (sk s a)≠91)
include c9
theorem oA (c:ak s (sk s a)=40):∃ e,bn nf bf s n .sum (sk s a+1)=some (.ok t e)/\ak s (sk s e)=41/\b=sk s e+1:=by
 unfold bn at h;rw[if_neg (by rw[c0];decide),if_neg cL,if_neg c9,if_pos c] at h
 obtain ⟨v,e,h1,f⟩:=fE h
 split at f
 ·rename_i d;injection f with f;injection f with f h3;subst f;exact ⟨e,h1,d,h3.symm⟩
 ·cases f
theorem qB (c:ak s (sk s a)≠40):False:=by
 unfold bn at h;rw[if_neg (by rw[c0];decide),if_neg cL,if_neg c9,if_neg c] at h;cases h
end
theorem k7 (h:bn nf bf s (n+1) (.call op) a=some (.ok t b)):ak s (sk s a)=40/\∃ u e,bn nf bf s n .sum (sk s a+1)=some (.ok u e)/\((op=12\/op=13)->ak s (sk s e)=44/\∃ v f,bn nf bf s n .sum (sk s e+1)=some (.ok v f)/\ak s (sk s f)=41/\t=bz op u v/\b=sk s f+1)/\(¬(op=12\/op=13)->ak s (sk s e)=41/\t=fQ op u/\b=sk s e+1):=by
  unfold bn at h
  split at h
  . rename_i c
    obtain ⟨u,e,h1,i⟩:=fE h;refine ⟨c,u,e,h1,fun k=>?_,fun k=>?_⟩
    . rw[if_pos k] at i
      split at i
      . rename_i d
        obtain ⟨v,f,l,j⟩:=fE i
        split at j
        . rename_i g;injection j with j;injection j with j h5;exact ⟨d,v,f,l,g,j.symm,h5.symm⟩
        . cases j
      . cases i
    . rw[if_neg k] at i
      split at i
      . rename_i d;injection i with i;injection i with i l;exact ⟨d,i.symm,l.symm⟩
      . cases i
  . cases h
end
end
def PtH (h:Hp)(p:PTm)(t:Tm):Prop:=∃ d,TmH d h p t
theorem PtH.gw {h a:Hp}{p:PTm}{t:Tm}(x:PtH h p t)(u:Gw h a):PtH a p t:=by obtain ⟨d,x⟩:=x;exact ⟨d,x.gw u⟩
theorem PtH.one {h:Hp}{op n:Int}{p:PTm}{t:Tm}{b:Nat}(x:PtH h p t)(a:SlO 9 bv a7 h (some ⟨b,0,none⟩) [p]):PtH h ⟨op,n,0,⟨#[]⟩,some ⟨b,0,none⟩,1,1⟩ (.mk op n 0 ⟨#[]⟩ [t]):=by
 obtain ⟨d,x⟩:=x
 exact ⟨d+1,TmH.mk (ps:=[p]) (ks:=[t]) ⟨rfl,fun i hi=>by
  have:i=0:=by have:i<1:=hi;omega
  subst this;exact x⟩ (eb _) a⟩
theorem PtH.two {h:Hp}{op:Int}{p q:PTm}{t u:Tm}{b:Nat}(x:PtH h p t)(y:PtH h q u)(a:SlO 9 bv a7 h (some ⟨b,0,none⟩) [p,q]):PtH h ⟨op,0,0,⟨#[]⟩,some ⟨b,0,none⟩,2,2⟩ (bz op t u):=by
 obtain ⟨d,x⟩:=x;obtain ⟨e,y⟩:=y
 exact ⟨max d e+1,TmH.mk (ps:=[p,q]) (ks:=[t,u]) ⟨rfl,fun i hi=>by
  have:i=0\/i=1:=by have:i<2:=hi;omega
  rcases this with rfl|rfl
  ·exact x.mono (Nat.le_max_left _ _)
  ·exact y.mono (Nat.le_max_right _ _)⟩ (eb _) a⟩
theorem PtH.num {h:Hp}{q:Rat}:PtH h ⟨1,0,q,⟨#[]⟩,none,0,0⟩ (dl q):=⟨1,TmH.mk (ps:=[]) (ks:=[]) Tms.nil (eb _) SlO.nil⟩
theorem PtH.nam {h:Hp}{s:ByteArray}:PtH h ⟨2,0,0,s,none,0,0⟩ (dC s):=⟨1,TmH.mk (ps:=[]) (ks:=[]) Tms.nil (eb _) SlO.nil⟩
section ops
variable {P:Program}{Γ:ck}{o:Oper}
theorem eA {tx:TypeId}{x i e:Operand}{k k2:IntKind}{s:ByteArray}{n m:Nat}{j j2:Int}(f:o.op=.slice tx x (some i) (some e) none)(c:ev Γ x=.string s)(hi:ev Γ i=.int k j)(h:ev Γ e=.int k2 j2)(hu:P.underlying tx=some .string)(d:j=(n:Int))(a:j2=(m:Int))(l:n<=m)(b:m<=s.size)(w:World) :
  (execOp (ev Γ) o).run P w=.ok (.value (.string (s.extract n m))) w:=by
 unfold execOp;simp only[f]
 subst d;subst a;have h0:(m:Int)<=(s.size:Int):=by omega
 simp[Instr.sliceAt,c,hi,h,Instr.slice,run_underlying hu,Instr.sliceBounds,Instr.sliceBound,asIntOf,Result.andThen,h0,l,b]
end ops
theorem ef {x:Option PR}{f:Tm->Nat->Option PR}{b:Nat}(h:fT x f=some (.err b)):x=some (.err b)\/∃ u a,x=some (.ok u a)/\f u a=some (.err b):=by
 match x,h with
 | some (.ok u a),h=>exact .inr ⟨u,a,rfl,h⟩
 | some (.err c),h=>injection h with h;injection h with h;subst h;exact .inl rfl
theorem d4 {x:Option PR}{f:Tm->Nat->Option PR}(h:∃ r,x=some r)(c:∀ t a,x=some (.ok t a)->∃ r,f t a=some r):∃ r,fT x f=some r:=by
 obtain ⟨r,rfl⟩:=h;cases r with
 | ok t a=>exact c t a rfl
 | err b=>exact ⟨_,rfl⟩
section
variable {nf bf:ByteArray->Option Rat}{s:ByteArray}{n a b:Nat}{u:Tm}{lv:Bool}{op:Int}
theorem pI (h:bn nf bf s (n+1) (tK lv) a=some (.err b)):bn nf bf s n (part lv) a=some (.err b)\/∃ t c,bn nf bf s n (part lv) a=some (.ok t c)/\bn nf bf s n (.more lv t) c=some (.err b):=by
 cases lv<;>exact ef h
theorem qh (h:bn nf bf s (n+1) (.more lv u) a=some (.err b))(c:ak s (sk s a)=c1 lv):bn nf bf s n (part lv) (sk s a+1)=some (.err b)\/∃ v e,bn nf bf s n (part lv) (sk s a+1)=some (.ok v e)/\bn nf bf s n (.more lv (bz (km lv) u v)) e=some (.err b):=by
 unfold bn at h;rw[if_pos c] at h;exact ef h
theorem qQ (h:bn nf bf s (n+1) (.more lv u) a=some (.err b))(d:ak s (sk s a)≠c1 lv)(c:ak s (sk s a)=c2 lv):bn nf bf s n (part lv) (sk s a+1)=some (.err b)\/∃ v e,bn nf bf s n (part lv) (sk s a+1)=some (.ok v e)/\bn nf bf s n (.more lv (bz (jv lv) u v)) e=some (.err b):=by
 unfold bn at h;rw[if_neg d,if_pos c] at h;exact ef h
theorem qA (h:bn nf bf s (n+1) (.more lv u) a=some (.err b))(d:ak s (sk s a)≠c1 lv)(c:ak s (sk s a)≠c2 lv):False:=by
 unfold bn at h;rw[if_neg d,if_neg c] at h;injection h with h;cases h
theorem wH (h:bn nf bf s (n+1) .sign a=some (.err b))(c:ak s (sk s a)=45):bn nf bf s n .sign (sk s a+1)=some (.err b):=by
 unfold bn at h;rw[if_pos c] at h
 rcases ef h with h|⟨v,e,_,h⟩
 ·exact h
 ·injection h with h;cases h
theorem qq (h:bn nf bf s (n+1) .sign a=some (.err b))(c:ak s (sk s a)≠45):bn nf bf s n .pow (sk s a)=some (.err b):=by
 unfold bn at h;rw[if_neg c] at h;exact h
theorem wx (h:bn nf bf s (n+1) .pow a=some (.err b)):bn nf bf s n .atom a=some (.err b)\/∃ v e,bn nf bf s n .atom a=some (.ok v e)/\ak s (sk s e)=94/\iW s v (sk s e+1)=.err b:=by
 unfold bn at h
 rcases ef h with h|⟨v,e,h1,h⟩
 ·exact .inl h
 ·by_cases c:ak s (sk s e)=94
  ·rw[if_pos c] at h;injection h with h;exact .inr ⟨v,e,h1,c,h⟩
  ·rw[if_neg c] at h;injection h with h;cases h
theorem uT {v:Tm}(h:iW s v a=.err b):b=sk s (if ak s (sk s a)=45 then sk s a+1 else sk s a)/\(3<rn bM s b-b\/fM (s.extract b (rn bM s b))=none):=by
 have d:∀ x y:Nat,(if decide (ak s (sk s a)=45)=true then x else y)=if ak s (sk s a)=45 then x else y:=fun x y=>by by_cases c:ak s (sk s a)=45<;>simp[c]
 unfold iW at h
 dsimp only at h
 rw[d] at h
 generalize sk s (if ak s (sk s a)=45 then sk s a+1 else sk s a)=B at h ⊢
 by_cases c:3<rn bM s B-B
 ·rw[if_pos c] at h;injection h with h;subst h;exact ⟨rfl,.inl c⟩
 ·rw[if_neg c] at h
  revert h
  cases e:fM (s.extract B (rn bM s B)) with
  | none=>intro h;injection h with h;subst h;exact ⟨rfl,.inr e⟩
  | some k=>intro h;cases h
section
variable (h:bn nf bf s (n+1) .atom a=some (.err b))
include h
theorem vj (c:cH (ak s (sk s a))=true):nf (s.extract (sk s a) (rn cH s (sk s a)))=none/\b=sk s a:=by
 unfold bn at h;rw[if_pos c] at h
 split at h
 ·injection h with h;cases h
 ·rename_i e;injection h with h;injection h with h;exact ⟨e,h.symm⟩
variable (c0:cH (ak s (sk s a))=false)
include c0
theorem Be (c:dI (ak s (sk s a))\/ak s (sk s a)=95)(d:bU (s.extract (sk s a) (rn bF s (sk s a)))=true):bn nf bf s n (.call (ag (s.extract (sk s a) (rn bF s (sk s a))))) (rn bF s (sk s a))=some (.err b):=by
 unfold bn at h;rw[if_neg (by rw[c0];decide),if_pos c,if_pos d] at h;exact h
theorem wu (c:dI (ak s (sk s a))\/ak s (sk s a)=95)(d:bU (s.extract (sk s a) (rn bF s (sk s a)))=false):cD (s.extract (sk s a) (rn bF s (sk s a)))=false/\b=sk s a:=by
 unfold bn at h;rw[if_neg (by rw[c0];decide),if_pos c,if_neg (by rw[d];decide)] at h
 split at h
 ·injection h with h;cases h
 ·rename_i e
  injection h with h;injection h with h
  refine ⟨?_,h.symm⟩;cases q:cD (s.extract (sk s a) (rn bF s (sk s a)))
  ·rfl
  ·exact absurd q e
variable (cL:¬(dI (ak s (sk s a))\/ak s (sk s a)=95))
include cL
theorem Ca (c:ak s (sk s a)=91):b=sk s a/\(rn cf s (sk s a+1)=s.size\/bf (s.extract (sk s a+1) (rn cf s (sk s a+1)))=none):=by
 unfold bn at h;rw[if_neg (by rw[c0];decide),if_neg cL,if_pos c] at h
 split at h
 ·rename_i d;injection h with h;injection h with h;exact ⟨h.symm,.inl d⟩
 ·split at h
  ·injection h with h;cases h
  ·rename_i e;injection h with h;injection h with h;exact ⟨h.symm,.inr e⟩
variable (c9:ak s (sk s a)≠91)
include c9
theorem vi (c:ak s (sk s a)=40):bn nf bf s n .sum (sk s a+1)=some (.err b)\/∃ t e,bn nf bf s n .sum (sk s a+1)=some (.ok t e)/\ak s (sk s e)≠41/\b=sk s e:=by
 unfold bn at h;rw[if_neg (by rw[c0];decide),if_neg cL,if_neg c9,if_pos c] at h
 rcases ef h with h|⟨v,e,h1,h⟩
 ·exact .inl h
 ·refine .inr ⟨v,e,h1,?_⟩
  by_cases d:ak s (sk s e)=41
  ·rw[if_pos d] at h;injection h with h;cases h
  ·rw[if_neg d] at h;injection h with h;injection h with h;exact ⟨d,h.symm⟩
theorem BI (c:ak s (sk s a)≠40):b=sk s a:=by
 unfold bn at h;rw[if_neg (by rw[c0];decide),if_neg cL,if_neg c9,if_neg c] at h;injection h with h;injection h with h;exact h.symm
end
theorem mG (h:bn nf bf s (n+1) (.call op) a=some (.err b)):(ak s (sk s a)≠40/\b=sk s a)\/(ak s (sk s a)=40/\(bn nf bf s n .sum (sk s a+1)=some (.err b)\/∃ u e,bn nf bf s n .sum (sk s a+1)=some (.ok u e) /\
    ((op=12\/op=13)->(ak s (sk s e)≠44/\b=sk s e)\/(ak s (sk s e)=44/\(bn nf bf s n .sum (sk s e+1)=some (.err b)\/∃ v f,bn nf bf s n .sum (sk s e+1)=some (.ok v f)/\ak s (sk s f)≠41/\b=sk s f)))/\(¬(op=12\/op=13)->ak s (sk s e)≠41/\b=sk s e))):=by
  unfold bn at h
  split at h
  . rename_i c
    refine .inr ⟨c,?_⟩
    rcases ef h with h|⟨u,e,h1,h⟩
    . exact .inl h
    . refine .inr ⟨u,e,h1,fun i=>?_,fun i=>?_⟩
      . rw[if_pos i] at h
        split at h
        . rename_i d
          refine .inr ⟨d,?_⟩
          rcases ef h with h|⟨v,f,h3,h⟩
          . exact .inl h
          . refine .inr ⟨v,f,h3,?_⟩
            split at h
            . injection h with h;cases h
            . rename_i g;injection h with h;injection h with h;exact ⟨g,h.symm⟩
        . rename_i d;injection h with h;injection h with h;exact .inl ⟨d,h.symm⟩
      . rw[if_neg i] at h
        split at h
        . injection h with h;cases h
        . rename_i d;injection h with h;injection h with h;exact ⟨d,h.symm⟩
  . rename_i c;injection h with h;injection h with h;exact .inl ⟨c,h.symm⟩
theorem sD {v t:Tm}(ha:a<=s.size)(h:iW s v a=.ok t b):a<=b/\b<=s.size:=by
 obtain ⟨k,_,o,_⟩:=oe h;have j:=eF s a;have d:=bB ha;have e:=cn (s:=s) (a:=sk s a)
 have:a<=sk s (if ak s (sk s a)=45 then sk s a+1 else sk s a)/\sk s (if ak s (sk s a)=45 then sk s a+1 else sk s a)<=s.size:=by
  by_cases c:ak s (sk s a)=45
  ·rw[if_pos c]
   have:=e oM;have f:=eF s (sk s a+1);exact ⟨by omega,bB oM⟩
  ·rw[if_neg c]
   have f:=eF s (sk s a);exact ⟨by omega,bB d⟩
 have i:=f4 bM s (sk s (if ak s (sk s a)=45 then sk s a+1 else sk s a));have l:=dB (p:=bM) this.2
 omega
theorem nO:∀ (n:Nat) (k:PKd) (a:Nat) (t:Tm) (b:Nat),a<=s.size->bn nf bf s n k a=some (.ok t b)->a<=b/\b<=s.size
  | 0,_,_,_,_,_,h=>by cases h
  | n + 1, k, a,t,b,ha,h=>by
    have h1:=eF s a;have C:=bB ha;have x:=cn (s:=s) (a:=sk s a);have i:=nO n;cases k with
    | sum =>
      obtain ⟨u,c,j,o⟩:=jw (lv:=false) h;have l:=i _ _ _ _ ha j;have y:=i _ _ _ _ l.2 o
      omega
    | prod =>
      obtain ⟨u,c,j,o⟩:=jw (lv:=true) h;have l:=i _ _ _ _ ha j;have y:=i _ _ _ _ l.2 o
      omega
    | more lv u =>
      have J:c1 lv≠0:=by cases lv<;>decide
      have k2:c2 lv≠0:=by cases lv<;>decide
      by_cases x1:ak s (sk s a)=c1 lv
      . obtain ⟨v,e,j,o⟩:=jM h x1
        have:=x oM;have l:=i _ _ _ _ oM j;have y:=i _ _ _ _ l.2 o
        omega
      . by_cases x2:ak s (sk s a)=c2 lv
        . obtain ⟨v,e,j,o⟩:=jG h x1 x2
          have:=x oM;have l:=i _ _ _ _ oM j;have y:=i _ _ _ _ l.2 o
          omega
        . obtain ⟨_,e⟩:=jy h x1 x2
          omega
    | sign =>
      by_cases x1:ak s (sk s a)=45
      . obtain ⟨v,j,_⟩:=nS h x1
        have:=x oM;have l:=i _ _ _ _ oM j
        omega
      . have l:=i _ _ _ _ C (iu h x1)
        omega
    | pow =>
      obtain ⟨v,e,j,o,z⟩:=nF h;have l:=i _ _ _ _ ha j;have I:=eF s e;have L:=bB l.2
      by_cases x1:ak s (sk s e)=94
      . have:=cn (s:=s) (a:=sk s e) oM
        have:=sD oM (z x1)
        omega
      . have:=(o x1).2
        omega
    | atom =>
      cases c0:cH (ak s (sk s a)) with
      | true =>
        obtain ⟨q,_,_,e⟩:=nK h c0;have:=f4 cH s (sk s a);have:=dB (p:=cH) C
        omega
      | false =>
        by_cases cL:dI (ak s (sk s a))\/ak s (sk s a)=95
        . have O:=f4 bF s (sk s a)
          have D:=dB (p:=bF) C;cases d:bU (s.extract (sk s a) (rn bF s (sk s a))) with
          | true=>have l:=i _ _ _ _ D (rq h c0 cL d);omega
          | false=>obtain ⟨_,_,e⟩:=oh h c0 cL d;omega
        . by_cases c9:ak s (sk s a)=91
          . obtain ⟨M,q,_,_,e⟩:=p9 h c0 cL c9
            have:=x oM;have:=f4 cf s (sk s a+1);have:=dB (p:=cf) (s:=s) (a:=sk s a+1) oM
            omega
          . by_cases B:ak s (sk s a)=40
            . obtain ⟨e,j,o,z⟩:=oA h c0 cL c9 B
              have:=x oM;have l:=i _ _ _ _ oM j;have:=eF s e;have:=cn (s:=s) (a:=sk s e) oM
              omega
            . exact (qB h c0 cL c9 B).elim
    | call op =>
      obtain ⟨B,u,e,j,o,z⟩:=k7 h;have:=x oM;have l:=i _ _ _ _ oM j;have:=eF s e
      by_cases ho:op=12\/op=13
      . obtain ⟨d,v,f,H,K,_,F⟩:=o ho
        have:=cn (s:=s) (a:=sk s e) oM;have y:=i _ _ _ _ oM H;have:=eF s f;have:=cn (s:=s) (a:=sk s f) oM
        omega
      . obtain ⟨d,_,F⟩:=z ho
        have:=cn (s:=s) (a:=sk s e) oM
        omega
def Di:PKd->Nat
  | .sum=>5
  | .prod=>4
  | .sign=>3
  | .pow=>2
  | .atom=>1
  | .call _=>0
  | .more _ _=>0
theorem jh {p:Nat->Bool}{s:ByteArray}{a:Nat}(h:a<s.size)(b:p (ak s a)=true):a+1<=rn p s a:=by
 unfold rn
 rw[show s.size-a=(s.size-a-1)+1 by omega]
 unfold pD
 rw[if_pos ⟨h,b⟩];exact qM p s _ (a+1)
theorem r7:∀ (m:Nat) (k:PKd) (a:Nat),a<=s.size->6*(s.size-a)+Di k<m->∃ r,bn nf bf s m k a=some r
  | 0,_,_,_,h=>absurd h (Kk _)
  | m + 1, k, a,ha,d=>by
    have h1:=eF s a;have x:=bB ha;have j:=cn (s:=s) (a:=sk s a);have b:=r7 m;have i:=nO (nf:=nf) (bf:=bf) (s:=s) m;cases k with
    | sum =>
      have d:6*(s.size-a)+5<m+1:=d;exact d4 (b .prod a ha (by show 6*(s.size-a)+4<m;omega)) fun t c g=>b (.more false t) c (i _ _ _ _ ha g).2 (by have:=i _ _ _ _ ha g;show 6*(s.size-c)+0<m;omega)
    | prod =>
      have d:6*(s.size-a)+4<m+1:=d;exact d4 (b .sign a ha (by show 6*(s.size-a)+3<m;omega)) fun t c g=>b (.more true t) c (i _ _ _ _ ha g).2 (by have:=i _ _ _ _ ha g;show 6*(s.size-c)+0<m;omega)
    | more lv u =>
      have d:6*(s.size-a)+0<m+1:=d;have C:c1 lv≠0:=by cases lv<;>decide
      have k2:c2 lv≠0:=by cases lv<;>decide
      have D:Di (part lv)<=4:=by cases lv<;>decide
      unfold bn
      by_cases x1:ak s (sk s a)=c1 lv
      . rw[if_pos x1]
        have:=j oM;exact d4 (b (part lv) _ oM oM) fun t c g=>b (.more lv _) c (i _ _ _ _ oM g).2 (by have:=i _ _ _ _ (show sk s a+1<=s.size by omega) g;show 6*(s.size-c)+0<m;omega)
      . rw[if_neg x1]
        by_cases x2:ak s (sk s a)=c2 lv
        . rw[if_pos x2]
          have:=j oM;exact d4 (b (part lv) _ oM oM) fun t c g=>b (.more lv _) c (i _ _ _ _ oM g).2 (by have:=i _ _ _ _ (show sk s a+1<=s.size by omega) g;show 6*(s.size-c)+0<m;omega)
        . rw[if_neg x2];exact ⟨_,rfl⟩
    | sign =>
      have d:6*(s.size-a)+3<m+1:=d
      unfold bn
      by_cases x1:ak s (sk s a)=45
      . rw[if_pos x1]
        have:=j oM;exact d4 (b .sign _ oM (by show 6*(s.size-(sk s a+1))+3<m;omega)) fun t c g=>⟨_,rfl⟩
      . rw[if_neg x1];exact b .pow _ x (by show 6*(s.size-sk s a)+2<m;omega)
    | pow =>
      have d:6*(s.size-a)+2<m+1:=d
      unfold bn
      refine d4 (b .atom a ha (by show 6*(s.size-a)+1<m;omega)) fun t c g=>?_
      split
      . exact ⟨_,rfl⟩
      . exact ⟨_,rfl⟩
    | atom =>
      have d:6*(s.size-a)+1<m+1:=d
      unfold bn
      split
      . split<;>exact ⟨_,rfl⟩
      . split
        . rename_i cL
          have o:sk s a<s.size:=j (by
            rcases cL with cL|cL
            . unfold dI at cL;omega
            . omega)
          have hr:sk s a+1<=rn bF s (sk s a):=jh o (decide_eq_true (by
            unfold kd
            rcases cL with cL|cL
            . exact .inl cL
            . exact .inr (.inr cL)))
          have l:=dB (p:=bF) x
          split
          . exact b (.call _) _ l (by show 6*(s.size-rn bF s (sk s a))+0<m;omega)
          . split<;>exact ⟨_,rfl⟩
        . split
          . split
            . exact ⟨_,rfl⟩
            . split<;>exact ⟨_,rfl⟩
          . split
            . rename_i z
              have:=j oM;refine d4 (b .sum _ oM (by show 6*(s.size-(sk s a+1))+5<m;omega)) fun t c g=>?_
              split<;>exact ⟨_,rfl⟩
            . exact ⟨_,rfl⟩
    | call op =>
      have d:6*(s.size-a)+0<m+1:=d
      unfold bn
      split
      . rename_i z
        have:=j oM;refine d4 (b .sum _ oM (by show 6*(s.size-(sk s a+1))+5<m;omega)) fun t e g=>?_
        have y:=i _ _ _ _ (show sk s a+1<=s.size by omega) g;have:=eF s e
        split
        . split
          . have:=cn (s:=s) (a:=sk s e) oM
            refine d4 (b .sum _ oM (by show 6*(s.size-(sk s e+1))+5<m;omega)) fun v f B=>?_
            split<;>exact ⟨_,rfl⟩
          . exact ⟨_,rfl⟩
        . split<;>exact ⟨_,rfl⟩
      . exact ⟨_,rfl⟩
end
structure Whole (lo:Nat) (h:Hp) (b:Nat) (ty:TypeId) (vs:List Value):Prop where
  lo:lo<=b
  ty0:(ty == 0)=false
  at_:h[b]?=some (.cells vs.toArray ty (0,0))
structure Poked (h h':Hp) (b:Nat):Prop where
  oth:∀ c,c≠b->c<h.size->h'[c]?=h[c]?
section laws
variable {M:Ms}{P:Program}{n:Nat}{N R:Po}{X:Nat->Po}{ops:Array Oper}{k k0:Nat}{hr:Hp}{AL:List Al}{L:Array Bool}{Γ:ck}{w:World}{h:Hp}{w0:World}{h0:Hp}{B:List Bx}{Rs:List Rw}{F:List (Hp->Prop)}
theorem tC (i t:Nat){f:FuncId}{args:Array Value}(c:Calls P f args w fun e w'=>∃ v,e=.returned v/\Tl M w w'/\AG M P n N R X ops k0 (L.setIfInBounds i true) ((t,v)::Γ) w')(h:(gR ops k0 L i && ba Γ (av ops i) && ((av ops i).dst == some t) && decide (t<n))=true:=by kernel_rfl)(k:bu ops Γ (av ops i)=some true:=by kernel_rfl)
  (hr:(execOp (ev Γ) (av ops i)).run P w=.ok (.enter f args) w:=by kernel_rfl):AG M P n N R X ops k0 L Γ w:=by
 simp only[hI,decide_eq_true_eq,beq_iff_eq] at h
 obtain ⟨⟨⟨h1,o⟩,u⟩,p⟩:=h;obtain ⟨j,l⟩:=jd h1;intro a b;refine A.one h1 j (R':=fun v w'=>Tl M w w'/\AG M P n N R X ops k0 (L.setIfInBounds i true) ((t,v)::Γ) w') ⟨b.want k,.inr (.inr ⟨f,args,?_,c⟩)⟩ (fun v w' d=>d.1) (fun v w' d=>?_)
 ·rw[b.exec (Region.noSelect_spec l i _ · · j) o];exact hr
 ·rw[u];exact d.2 _ (b.put p v)
theorem fe (t:Nat)(ty:TypeId)(vs:List Value)(s:SS w0 h0 w h B Rs F)(H:∀ b w' a,Up w h w' a->h.size<=b->SS w0 h0 w' a (⟨b,ty,vs⟩::B) Rs F->LG P n N R X ops (k+1) ((t,.pointer (some ⟨b,0,none⟩))::Γ) w')(c:cL ops Γ k t n=true:=by kernel_rfl)
  (hr:(execOp (ev Γ) (av ops k)).run P w=.ok (.value (.pointer (some ⟨w.heap.size,0,none⟩))) (w.alloc (.cells vs.toArray ty (0,0))):=by kernel_rfl):LG P n N R X ops k Γ w :=
 LG.var t ty vs s.st (bS c).1 (bS c).2 hr (fun b w' a d u e=>H b w' a u d (s.new u d e))
theorem UpM.put2 {M2:List Nat}{wa w':World}{ha:Hp}{b:Nat}(u:UpM M2 wa ha w h)(p:Put b w w')(i:ha.size<=b)(a:G wa ha)(g:G w' h):UpM M2 wa ha w' h :=
 ⟨⟨p.os.trans u.mo.os,p.tape.trans u.mo.tape,p.output.trans u.mo.output,by rw[p.size];exact u.mo.size,fun c f d=>(p.blk c (fun e=>by subst e;have:=a.size;omega)).trans (u.mo.blk c f d)⟩,u.gr,g⟩
end laws
section
variable {M:Ms}{P:Program}{n:Nat}{N R:Po}{X:Nat->Po}{ops:Array Oper}{k0:Nat}{hr:Hp}{AL:List Al}{L:Array Bool}{Γ:ck}{w:World}{h:Hp}{w0:World}{h0:Hp}{B:List Bx}{Rs:List Rw}{F:List (Hp->Prop)}{M2:List Nat}{wa:World}{ha:Hp}
theorem SS.pubM (s:SS w0 h0 w h B Rs F)(u:UpM M2 wa ha w h)(j:Nat)(y:ha.size<=(aA B j).b)(p:decide (j<B.length)=true:=by kernel_rfl):∃ a,SS w0 h0 w a (B.eraseIdx j) Rs F/\UpM M2 wa ha w a/\Seg a (aA B j).b 0 (aA B j).vs:=by
 have c:=oT p;obtain ⟨a,i,gw,k,z,oth⟩:=s.st.pubX j c;have l:=bA c;refine ⟨a,⟨s.g0,i,fun r hr=>((s.ro r hr).out (ga.2 ⟨_,l,rfl⟩) oth).sub _ (fun b d=>?_),s.ap,s.mo,s.f.gw s.mo gw⟩,⟨u.mo,⟨ed u.gr.size gw.size,fun b d=>?_⟩,i.up.g⟩,k⟩
 ·obtain ⟨x,o,e⟩:=ga.1 d
  exact ga.2 ⟨x,List.mem_of_mem_eraseIdx o,e⟩
 ·exact (oth b (fun e=>by subst e;omega)).trans (u.gr.blk b d)
theorem ie (i t:Nat){f:FuncId}{args:Array Value}{Φ:World->Hp->Value->Hp->Prop}(s:SS w0 h0 w h B Rs F)(m:UpM M2 wa ha w h)(c:∀ w1 h1,SS w0 h0 w1 h1 B Rs F->Calls P f args w1 (Ret w1 h1 (Φ w1 h1)))(H:∀ w1 h1 v w' a,UpM M2 wa ha w' a->SS w0 h0 w' a B Rs F->Φ w1 h1 v a->EG M P n N R X ops k0 hr AL (L.setIfInBounds i true) ((t,v)::Γ) w' a)(j:AC n ops k0 AL L Γ i t=true:=by kernel_rfl)(hv:∀ w,(execOp (ev Γ) (av ops i)).run P w=.ok (.enter f args) w:=by intro _;kernel_rfl):EG M P n N R X ops k0 hr AL L Γ w h :=
 Rg.call i t f args (fA j).1 (fA j).2 hv (fun w1 h1 u=>(c w1 h1 (s.step u)).mono fun e w' ⟨v,a,k,b,d⟩=>⟨v,a,k,b.m M.l,H w1 h1 v w' a (m.trans ((u.m _).trans (b.m _))) ((s.step u).step b) d⟩)
theorem me {F1:List (Hp->Prop)}{wr:World}{x:Al}(a:List Bx)(l:SS w0 h0 wr hr B Rs F1)(s:SS w0 h0 w h (a++B) Rs F)(m:UpM M2 wa ha w h)(e:ha.size<=hr.size)(t:TypeId)(vs:List Value)(H:∀ w' c b,UpM M2 wa ha w' c->ha.size<=b->SS w0 h0 w' c (⟨b,t,vs⟩::(a++B)) Rs F->AG M P n N R X ops k0 (L.setIfInBounds x.i true) ((x.t,.pointer (some ⟨b,0,none⟩))::Γ) w')(d:(fl ops [x] L && decide (x.t<n))=true:=by kernel_rfl)(f:x.o=.cells vs.toArray t (0,0):=by kernel_rfl)(j:a.all (fun y=>y.t != t)=true:=by kernel_rfl):EG M P n N R X ops k0 hr [x] L Γ w h :=
 Rg.fin1 d (fun w' c b u k=>H w' c b (m.trans (u.m _)) (ed e k.2.2) (SS.blkp a l (s.step u) k t vs f j))
theorem kj (i j o:Nat)(cs:List Value)(s:SS w0 h0 w h B Rs F)(H:∀ w',Put (aA B j).b w w'->SS w0 h0 w' h (fO B j o cs) Rs F->AG M P n N R X ops k0 (L.setIfInBounds i true) Γ w')(c:FL ops k0 L Γ i=true:=by kernel_rfl)
  (a:(decide (j<B.length) && decide (o+cs.length<=(aA B j).vs.length))=true:=by kernel_rfl)(f:dq P (execOp (ev Γ) (av ops i))=some (.skip,mj (aA B j).b o cs):=by kernel_rfl)(hz:∀ K bs,M.z=some (K,bs)->K<=(aA B j).b\/(aA B j).b∈bs:=by intro _ _ e;cases e):AG M P n N R X ops k0 L Γ w :=
 T.put i j o cs s.st s.g0 (j7 c).1 (j7 c).2 a f (fun w' p d=>H w' p (s.put0 (oT (hI _ _▸a).1) p d (l9 (oT (hI _ _▸a).1)))) hz
end
structure Dif (M:List Nat) (w w0:World):Prop where
  mo:Mo M w w0
  sz:w0.heap.size=w.heap.size
section laws
variable {M:Ms}{P:Program}{ops:Array Oper}{Q:Exit->Act->World->Prop}{k0:Nat}
theorem E.event2 {h0:Hp}{AL:List Al}{L:Array Bool}{a:Act}{w:World}{h:Hp}{i:Nat}{o:Oper}{I:Nat}{z:Oper}
    (hi:ops[i]?=some o)(V:ops[I]?=some z)(hk:i<k0)(hk2:I<k0)(B:Region.noSelect ops=true)(hun:L.getD i true=false)
    (J:∀ j oj,ops[j]?=some oj->L.getD j true=false->j≠i->j≠I->(∀ x∈AL,x.i≠j)->∃ e∈oj.after,Region.binds .any e=true/\L.getD e.on false=false/\∀ x∈AL,x.i≠e.on)
    (O:∀ e∈o.after,Region.binds .any e=true->L.getD e.on false=true)
    (hal:∀ x∈AL,x.i≠i/\x.t ∉ o.looksAt ops/\o.dst≠some x.t)(X:∀ x∈AL,x.i≠I/\x.t ∉ z.looksAt ops/\z.dst≠some x.t)(oks:∀ x∈AL,AlOk P ops k0 x)(hM:∀ b∈M.l,b<h0.size)(g:G w h)(hsz:h0.size<=h.size)
    (H:∀ w' k,Up w h w' k->OpR P ops o a w' (fun v f=>∃ d,UpM M.l w' k f d/\E M P ops Q k0 h0 AL (L.setIfInBounds i true) (a.put o.dst v) f d))
    (H2:∀ w' k,Up w h w' k->OpR P ops z a w' (fun v f=>∃ d,UpM M.l w' k f d/\E M P ops Q k0 h0 AL (L.setIfInBounds I true) (a.put z.dst v) f d)):E M P ops Q k0 h0 AL L a w h:=by
  have key:∀ (m:Nat) (T:List Al),T.length=m->∀ w' k,Up w h w' k->∀ (S:List SA),(S.map (·.1)++T).Perm AL->(∀ s∈S,Blk h0 w' k s)->(S.map (·.2)).Nodup ->
      A M P ops Q k0 (dM L S) (addA a S) w':=by
    intro m
    induction m using Nat.strongRecOn with
    | _ m ih =>
      intro T hT w' k u S y W Z;have p:∀ s∈S,s.1.i≠i/\s.1.t ∉ o.looksAt ops/\o.dst≠some s.1.t:=fun s c=>hal _ (eg y c)
      have F:∀ s∈S,s.1.i≠I/\s.1.t ∉ z.looksAt ops/\z.dst≠some s.1.t:=fun s c=>X _ (eg y c)
      refine A.intro (fun h0'=>?_) (fun j hj=>?_)
      . exfalso
        have:i∈Region.ready .any ops (dM L S):=mem_ready.2 ⟨by rw[gf true (fun s c=>(p s c).1)];exact hun,o,hi,fun e U D=>jQ (O e U D)⟩;rw[h0'] at this
        cases this
      . by_cases hji:j=i
        . subst hji
          refine OpR.wpOp hi ((H w' k u).addA (Region.noSelect_spec B j o · · hi) S (fun s c=>(p s c).2.1)) ?_;rintro v f ⟨d,C,H3⟩;refine ⟨Rl.mo hk C.mo,?_⟩;rw[<-gX L S j (fun s c=>(p s c).1),<-g8 a S o.dst v (fun s c=>(p s c).2.2)];exact H3 f d (Up.refl C.g) S T y (fun s c=>(W s c).up C hM) Z
        . by_cases hj2:j=I
          . subst hj2
            refine OpR.wpOp V ((H2 w' k u).addA (Region.noSelect_spec B j z · · V) S (fun s c=>(F s c).2.1)) ?_;rintro v f ⟨d,C,H3⟩;refine ⟨Rl.mo hk2 C.mo,?_⟩;rw[<-gX L S j (fun s c=>(F s c).1),<-g8 a S z.dst v (fun s c=>(F s c).2.2)];exact H3 f d (Up.refl C.g) S T y (fun s c=>(W s c).up C hM) Z
          . obtain ⟨K,oj,hoj,Y⟩:=mem_ready.1 hj
            have hx:∃ x∈AL,x.i=j:=by
              refine Classical.byContradiction fun hno=>?_
              obtain ⟨e,U,D,hf,hne⟩:=J j oj hoj (f2 K) hji hj2 (fun x hx U=>hno ⟨x,hx,U⟩);have:=Y e U D;rw[gf false (fun s c=>hne _ (eg y c)),hf] at this
              cases this
            obtain ⟨x,hxA,rfl⟩:=hx;have hxT:=gG y hxA hj;exact nU oks hM u.g (ed hsz u.gr.size) y W Z hxT (fun w1 h1 S1 T1 u1 hp1 hb1 hn1 hlt=>ih T1.length oM T1 rfl w1 h1 (u.trans u1) S1 hp1 hb1 hn1)
  exact fun w' k u S T y W Z=>key _ T rfl w' k u S y W Z
end laws
section steps
variable {M:Ms}{P:Program}{n:Nat}{N R:Po}{X:Nat->Po}{ops:Array Oper}{k0:Nat}{hr:Hp}{AL:List Al}{L:Array Bool}{Γ:ck}{w:World}{h:Hp}
def qJ (n:Nat)(ops:Array Oper)(k0:Nat)(AL:List Al)(L:Array Bool)(Γ:ck)(i t i2 t2:Nat):Bool :=
  decide (i<ops.size) && decide (i2<ops.size) && decide (i<k0) && decide (i2<k0) && Region.noSelect ops && (L.getD i true == false) &&
  ((List.range ops.size).all fun j=>L.getD j true || j == i || j == i2 || AL.any (·.i == j) || (av ops j).after.any fun e=>Region.binds .any e && (L.getD e.on false == false) && AL.all (·.i != e.on)) &&
  ((av ops i).after.all fun e=>!Region.binds .any e || L.getD e.on false) &&
  oH ops AL i (av ops i) && oH ops AL i2 (av ops i2) && ((av ops i).dst == some t) && decide (t<n) && ((av ops i2).dst == some t2) && decide (t2<n) && ba Γ (av ops i) && ba Γ (av ops i2) && (bu ops Γ (av ops i) == some true) && (bu ops Γ (av ops i2) == some true)
theorem Rg.two (i t J t2:Nat)(S:qJ n ops k0 AL L Γ i t J t2=true)
  (H:∀ w' o,Up w h w' o->∃ v b c,(execOp (ev Γ) (av ops i)).run P w'=.ok (.value v) b/\UpM M.l w' o b c/\EG M P n N R X ops k0 hr AL (L.setIfInBounds i true) ((t,v)::Γ) b c)
  (H2:∀ w' o,Up w h w' o->∃ v b c,(execOp (ev Γ) (av ops J)).run P w'=.ok (.value v) b/\UpM M.l w' o b c/\EG M P n N R X ops k0 hr AL (L.setIfInBounds J true) ((t2,v)::Γ) b c) :
  EG M P n N R X ops k0 hr AL L Γ w h:=by
 unfold qJ at S
 simp only[hI,decide_eq_true_eq,beq_iff_eq] at S
 obtain ⟨⟨⟨⟨⟨⟨⟨⟨⟨⟨⟨⟨⟨⟨⟨⟨⟨h1,h2⟩,h3⟩,h4⟩,h5⟩,h6⟩,h7⟩,h8⟩,h9⟩,h10⟩,O⟩,Q⟩,h13⟩,K⟩,V⟩,Y⟩,U⟩,h18⟩:=S;have p:=bN (ops:=ops) h1;have f:=bN (ops:=ops) h2;intro B hM g C a D;have e1:=D.exec (Region.noSelect_spec h5 i _ · · p) V;have e2:=D.exec (Region.noSelect_spec h5 J _ · · f) Y;refine E.event2 p f h3 h4 h5 h6 ?_ ?_ (f9 h9) (f9 h10) B hM g C ?_ ?_
 ·intro j oj hj W Z F hal
  have I:=(g3.1 hj).1;have e:oj=av ops j:=by have:=bN (ops:=ops) I;rw[hj] at this;injection this
  have:=(hS.1 h7) j (List.mem_range.2 I)
  simp only[Bool.or_eq_true,W,Bool.false_eq_true,false_or,beq_iff_eq,Z,F,List.any_eq_true,Array.any_eq_true,hI] at this
  rcases this with ⟨x,hx,hxe⟩|⟨x,hx,⟨hb,hL⟩,hno⟩
  ·exact absurd hxe (hal x hx)
  ·rw[e]
   refine ⟨_,Array.getElem_mem hx,hb,hL,fun y hy=>?_⟩;have:=(hS.1 hno) y hy
   simpa using this
 ·intro e he hb
  have:=(Array.all_eq_true_iff_forall_mem.1 h8) e he
  simpa [hb] using this
 ·intro w' o u
  obtain ⟨v,b,c,d,z,k⟩:=H w' o u;refine ⟨D.want U,?_⟩;rw[e1];refine .inl ⟨v,b,d,c,z,?_⟩;rw[O];exact k B hM z.g (ed C (ed u.gr.size z.gr.size)) _ (D.put Q v)
 ·intro w' o u
  obtain ⟨v,b,c,d,z,k⟩:=H2 w' o u;refine ⟨D.want h18,?_⟩;rw[e2];refine .inl ⟨v,b,d,c,z,?_⟩;rw[h13];exact k B hM z.g (ed C (ed u.gr.size z.gr.size)) _ (D.put K v)
end steps
section
variable {M:Ms}{P:Program}{n:Nat}{N R:Po}{X:Nat->Po}{ops:Array Oper}{k0:Nat}{hr:Hp}{AL:List Al}{L:Array Bool}{Γ:ck}{w:World}{h:Hp}{w0:World}{h0:Hp}{B:List Bx}{Rs:List Rw}{F:List (Hp->Prop)}{M2:List Nat}{wa:World}{ha:Hp}
theorem jf (i t:Nat){f:FuncId}{args:Array Value}{rb:Nat}{Φ:World->Hp->Value->World->Hp->Prop}(s:SS w0 h0 w h B Rs F)(m:UpM M2 wa ha w h)(p:rb∈M.l)(k:rb∈M2)(c:∀ w1 h1,SS w0 h0 w1 h1 B Rs F->Calls P f args w1 (bW rb w1 h1 (Φ w1 h1)))(H:∀ w1 h1 v w' a,SS w0 h0 w1 h1 B Rs F->UpM [rb] w1 h1 w' a->UpM M2 wa ha w' a->Φ w1 h1 v w' a->EG M P n N R X ops k0 hr AL (L.setIfInBounds i true) ((t,v)::Γ) w' a)(x:AC n ops k0 AL L Γ i t=true:=by kernel_rfl)(hv:∀ w,(execOp (ev Γ) (av ops i)).run P w=.ok (.enter f args) w:=by intro _;kernel_rfl):EG M P n N R X ops k0 hr AL L Γ w h :=
 Rg.call i t f args (fA x).1 (fA x).2 hv (fun w1 h1 u=>(c w1 h1 (s.step u)).mono fun e w' ⟨v,a,y,j,o⟩=>⟨v,a,y,j.weak (fun b d=>by rw[n1] at d;rw[d];exact p),H w1 h1 v w' a (s.step u) j (m.trans ((u.m _).trans (j.weak (fun b d=>by rw[n1] at d;rw[d];exact k)))) o⟩)
theorem Bm (i t:Nat)(ps:List (Nat × Nat × Nat))(v:Value)(s:SS w0 h0 w h B Rs F)(m:UpM M2 wa ha w h)(H:∀ w' a,SS w0 h0 w' a B Rs F->UpM M2 wa ha w' a->EG M P n N R X ops k0 hr AL (L.setIfInBounds i true) ((t,v)::Γ) w' a)(c:(kS n ops k0 AL L i t && ba Γ (av ops i))=true:=by kernel_rfl)(d:bu ops Γ (av ops i)=some true:=by kernel_rfl)(b:bR B ps=true:=by kernel_rfl)(e:bP P (execOp (ev Γ) (av ops i)) (cg B ps)=some (.value v,bO B ps):=by kernel_rfl):EG M P n N R X ops k0 hr AL L Γ w h :=
 Rg.event i t c d (fun w' a u=>.inl ⟨v,w',a,bH _ _ _ _ e (bQ (s.step u).st.own ps b),UpM.refl u.g,H w' a (s.step u) (m.trans (u.m _))⟩)
theorem GK (i t:Nat)(ps:List (Nat × Nat × Nat))(v:Value)(c j:Nat)(b:List (Nat × Nat × Nat))(f:Value)(s:SS w0 h0 w h B Rs F)(m:UpM M2 wa ha w h)(H:∀ w' a,SS w0 h0 w' a B Rs F->UpM M2 wa ha w' a->EG M P n N R X ops k0 hr AL (L.setIfInBounds i true) ((t,v)::Γ) w' a)(k:∀ w' a,SS w0 h0 w' a B Rs F->UpM M2 wa ha w' a->EG M P n N R X ops k0 hr AL (L.setIfInBounds c true) ((j,f)::Γ) w' a)(l:qJ n ops k0 AL L Γ i t c j=true:=by kernel_rfl)(o:bR B ps=true:=by kernel_rfl)(p:bP P (execOp (ev Γ) (av ops i)) (cg B ps)=some (.value v,bO B ps):=by kernel_rfl)(e:bR B b=true:=by kernel_rfl)(d:bP P (execOp (ev Γ) (av ops c)) (cg B b)=some (.value f,bO B b):=by kernel_rfl):EG M P n N R X ops k0 hr AL L Γ w h :=
 Rg.two i t c j l (fun w' a u=>⟨v,w',a,bH _ _ _ _ p (bQ (s.step u).st.own ps o),UpM.refl u.g,H w' a (s.step u) (m.trans (u.m _))⟩) (fun w' a u=>⟨f,w',a,bH _ _ _ _ d (bQ (s.step u).st.own b e),UpM.refl u.g,k w' a (s.step u) (m.trans (u.m _))⟩)
end
theorem jo (c:Nat)(z:c<256)(w:World)(h:Hp)(g:G w h):CV 22 #[.int .u8 (c:Nat)] w h (.bool (decide (dI (c)))):=by
 have a:=sS g;refine go Tryz.func22 [(0,.int .u8 (c:Nat))] rfl (aa a ac (aE (lL a ac ?_)));cases d:(decide ((97:Int)<=(c:Int)))
 .
  have i:=oF d;refine lB 4 d (lL a ac (lG 6 ?_));refine lG 7 (lL a [.v qF,.c,.c] ?_);cases b:(decide ((65:Int)<=(c:Int)))
  .
   have j:=oF b;refine lB 11 b (lL a ac (lG 13 ?_));exact lG 14 (lL a [.v qF,.v qF,.c] (af a [] qF (congrArg Value.bool (decide_eq_false (by unfold dI;omega)).symm)))
  have j:=oT b;refine lB 11 b (lL a aF ?_);cases f:(decide ((c:Int)<=(90:Int)))
  .
   have l:=oF f;exact lB 14 f (lL a [.v qF,.v qF,.c] (af a [] qF (congrArg Value.bool (decide_eq_false (by unfold dI;omega)).symm)))
  have l:=oT f;exact lB 14 f (lL a [.v qT,.v qT,.c] (af a [] qT (congrArg Value.bool (decide_eq_true (by unfold dI;omega)).symm)))
 have i:=oT d;refine lB 4 d (lL a aF ?_);cases e:(decide ((c:Int)<=(122:Int)))
 .
  have k:=oF e;refine lB 7 e (lL a [.v qF,.c,.c] ?_);have ⟨o,x⟩:=dT (p:=(65:Int)<=(c:Int)) oM;refine lB 11 o (lL a aF ?_);have ⟨u,y⟩:=dF (p:=(c:Int)<=(90:Int)) oM;exact lB 14 u (lL a [.v qF,.v qF,.c] (af a [] qF (congrArg Value.bool (decide_eq_false (by unfold dI;omega)).symm)))
 have k:=oT e;refine lB 7 e (lL a [.v qT,.c] (lG 10 ?_));exact lG 11 (lG 12 (lG 13 (lG 14 (lG 15 (lL a [.v qT,.c] (af a [] qT (congrArg Value.bool (decide_eq_true (by unfold dI;omega)).symm)))))))
theorem fC (c:Nat)(i:c<256)(w:World)(h:Hp)(g:G w h):CV 45 #[.int .u8 (c:Nat)] w h (.bool (decide (48<=(c)/\(c)<=57))):=by
 have a:=sS g;refine go Tryz.func45 [(0,.int .u8 (c:Nat))] rfl (aa a ac (aE (lL a ac ?_)));cases d:(decide ((48:Int)<=(c:Int)))
 .
  have e:=oF d;refine lB 4 d (lL a ac (lG 6 ?_));exact lG 7 (lL a [.v qF,.c] (af a [] qF (congrArg Value.bool (decide_eq_false oM).symm)))
 have e:=oT d;refine lB 4 d (lL a aF ?_);cases b:(decide ((c:Int)<=(57:Int)))
 .
  have f:=oF b;exact lB 7 b (lL a [.v qF,.c] (af a [] qF (congrArg Value.bool (decide_eq_false oM).symm)))
 have f:=oT b;exact lB 7 b (lL a [.v qT,.c] (af a [] qT (congrArg Value.bool (decide_eq_true oM).symm)))
theorem l8 (c:Nat)(k:c<256)(w:World)(h:Hp)(g:G w h):CV 23 #[.int .u8 (c:Nat)] w h (.bool (decide (kd (c)))):=by
 have a:=sS g;refine go Tryz.func23 [(0,.int .u8 (c:Nat))] rfl (aa a ac (aE (lL a ac (aq 4 a (jo c k _ _ a.g) (fun w1 l a=>?_)))));cases i:(decide (dI (c)))
 .
  have j:=oF i;refine lL a aF (aq 7 a (fC c k _ _ a.g) (fun o p a=>?_));cases f:(decide (48<=(c)/\(c)<=57))
  .
   have d:=oF f;refine lL a [.v qF,.c,.c] ?_;cases b:((c:Int) == (95:Int))
   .
    have e:=ao b;exact lB 11 b (lL a [.v qF,.c] (af a [] qF (congrArg Value.bool (decide_eq_false (by unfold dI at *;unfold kd;omega)).symm)))
   have e:=eq_of_beq b;exact lB 11 b (lL a [.v qT,.c] (af a [] qT (congrArg Value.bool (decide_eq_true (by unfold dI at *;unfold kd;omega)).symm)))
  have d:=oT f;refine lL a [.v qT,.c] (lG 10 ?_);exact lG 11 (lL a [.v qT,.c] (af a [] qT (congrArg Value.bool (decide_eq_true (by unfold dI at *;unfold kd;omega)).symm)))
 have j:=oT i;refine lL a ac (lG 6 ?_);refine lG 7 (lL a [.v qT,.c] (lG 10 ?_));exact lG 11 (lL a [.v qT,.c] (af a [] qT (congrArg Value.bool (decide_eq_true (by unfold dI at *;unfold kd;omega)).symm)))
theorem ny  (w:World)(h:Hp)(g:G w h):CR 24 #[] w h (fun v h1=>∃ b,v=.map (some b)/\MapS h1 b gO):=by
 have a:=sS g;refine go Tryz.func24 [] rfl (aa a ac (aE (IR 1 a (fun o w2 y a k=>Gc 77 9 3 (⟨#[97,98,115]⟩) (iV 9) a k (fun x a l=>Gc 77 9 3 (⟨#[114,97,109,112]⟩) (iV 10) a l (fun z a j=>Gc 77 9 3 (⟨#[98,101,110,100]⟩) (iV 11) a j (fun u a d=>Gc 77 9 3 (⟨#[109,97,120]⟩) (iV 12) a d (fun _ a c=>Gc 77 9 3 (⟨#[109,105,110]⟩) (iV 13) a c (fun _ a e=>lL a ac ?_)))))))));obtain ⟨_,a,i⟩:=a.pubMap e;replace a:=a.to [] [];replace a:=a.add (K:=fun p=>MapS p o [⟨.string (⟨#[97,98,115]⟩),iV 9,0⟩,⟨.string (⟨#[114,97,109,112]⟩),iV 10,1⟩,⟨.string (⟨#[98,101,110,100]⟩),iV 11,2⟩,⟨.string (⟨#[109,97,120]⟩),iV 12,3⟩,⟨.string (⟨#[109,105,110]⟩),iV 13,4⟩]) i;exact lL a ac (af a [] (.map (some o)) (⟨_,rfl,a.f.1⟩))
theorem qE (s:ByteArray)(a:s.size<=1000000)(w:World)(h:Hp)(g:G w h):CV 8 #[.string s] w h (.bool (cD s)):=by
 have a:=sS g;refine go Tryz.func8 [(0,.string s)] rfl (aa a ac (ai (aa a [.c,.v (nV s.size)] ?_)));cases l:(decide ((s.size:Int)<(1:Int)))
 .
  have z:=oF l;refine lB 8 l (lL a [.c,.c,.v (nV s.size)] ?_);cases d:(decide ((20:Int)<(s.size:Int)))
  .
   have B:=oF d;refine lB 12 d (lL a [.v qF,.c,.c] (lV 16 (.int .u8 (ak s 0:Nat)) ?_ (hr:=aU (tx:=9) (x:=.tmp 15) (i:=.const (iV 0)) (k:=.i64) (s:=s) (n:=0) (j:=(0:Int)) kR kR kR kR oM oM _)));refine aq 17 a (jo ((ak s 0)) (bh _ _) _ _ a.g) (fun w3 U a=>?_);cases D:(decide (dI ((ak s 0))))
   .
    have u:=oF D;exact lL a [.v qT,.v qT] (aj (aa a ac (af a [] qF (mB (fun b=>by have C:=b.1;have F:=b.2.1;first|omega|exact absurd b.2.2 aM)))))
   have u:=oT D;refine lL a [.v qF,.v qF] (ah (cK (cQ (aa a [.c,.v (nV s.size),.c] (bE ?_)))));refine bG _ (CG.loop (fun H Γ W=>∃ (k:Nat)(b:Hp),H=s.size-k/\Γ=[(0,.string s),(21,nV s.size),(22,nV k)]/\SS w h W b [] [] []/\k<=s.size/\(∀ i,i<k->kd (ak s i))) _ ⟨0,U,rfl,rfl,a.to _ _,JH _,(fun i hi=>absurd hi (Kk i))⟩ ?_);rintro _ _ Z ⟨k,X,O,rfl,a,Y,p⟩;refine aG ?_;cases e:(decide ((k:Int)<(s.size:Int)))
   .
    have y:=oF e;refine lB 23 e (ai (da (CG.exit ?_)))
    show CG _ _ _ _ _ _ _ _
    refine aG (lC 32 a (ny _ _ a.g) ?_);rintro _ _ _ a ⟨M,rfl,I⟩;replace a:=(a.add (K:=fun b=>MapS b M gO) I);refine lL a ac (In 34 77 9 3 (s) true (iV (ag s)) ((bU s)) a a.f.1 ?_ (hf:=(by rcases ox s with ⟨i_,e1_,e2_⟩|⟨e1_,e2_,e3_⟩;exact .inl ⟨i_,e1_,e2_⟩;exact .inr ⟨e1_,e2_,fun _=>by rw[e3_];kernel_rfl⟩)));refine lL a [.c,.v (iV (ag s)),.v (.bool (bU s)),.c,.c] (aE (lL a ac ?_));cases L:(!(bU s))
    .
     refine lB 38 L (lL a ac (lN (kX ?_)));have o:=Bj (s:=s) ⟨by omega,by omega⟩ aM (fun i hi=>p i oM);exact a.ret [] qF (congrArg Value.bool (by rw[o];exact (by assumption:(!bU s)=false).symm))
    refine lB 38 L (lL a ac (lN (kX ?_)));have o:=Bj (s:=s) ⟨by omega,by omega⟩ aM (fun i hi=>p i oM);exact a.ret [] qT (congrArg Value.bool (by rw[o];exact (by assumption:(!bU s)=true).symm))
   have y:=oT e;refine lB 23 e (ai (ci (cK (cQ (kZ (aa a aF (aE (lL a aF (lV 27 (.int .u8 (ak s k:Nat)) ?_ (hr:=aU (tx:=9) (x:=.tmp 25) (i:=.tmp 26) (k:=.i64) (s:=s) (n:=k) (j:=(k:Int)) kR kR kR kR oM oM _))))))))));refine aq 28 a (l8 ((ak s k)) (bh _ _) _ _ a.g) (fun _ V a=>?_);cases J:(decide (kd ((ak s k))))
   .
    have S:=oF J;exact lL a [.v qT] (aj (aa a ac (af a [] qF (Dp (i:=k) oM aM))))
   have S:=oT J;refine lL a [.v qF] (ah (cK (kQ (bg 30 ((k:Nat)+1) (k+1) ?_))));refine lL a ac (lD ?_);intro a_ Q;refine ⟨_,_,?_,⟨k+1,V,rfl,rfl,a.to _ _,oM,(fun i hi=>by rcases Kl.1 hi with b|rfl;exact p i b;assumption)⟩,Q.to _ kR⟩
   omega
  have B:=oT d;refine lB 12 d (lL a [.v qT,.c] (lG 15 ?_));exact lG 16 (lG 17 (lG 18 (lL a [.v qT] (aj (aa a ac (af a [] qF (mB (fun b=>by have C:=b.1;have F:=b.2.1;first|omega|exact absurd b.2.2 aM))))))))
 have z:=oT l;refine lB 8 l (lL a ac (lG 10 ?_));refine lG 11 (lG 12 (lL a [.v qT,.c] (lG 15 ?_)));exact lG 16 (lG 17 (lG 18 (lL a [.v qT] (aj (aa a ac (af a [] qF (mB (fun b=>by have C:=b.1;have F:=b.2.1;first|omega|exact absurd b.2.2 aM))))))))
theorem ji (c:Nat)(z:c<256)(w:World)(h:Hp)(g:G w h):CV 25 #[.int .u8 (c:Nat)] w h (.bool (decide (dI (c)))):=by
 have a:=sS g;refine go Tryz.func25 [(0,.int .u8 (c:Nat))] rfl (aa a ac (aE (lL a ac ?_)));cases d:(decide ((97:Int)<=(c:Int)))
 .
  have i:=oF d;refine lB 4 d (lL a ac (lG 6 ?_));refine lG 7 (lL a [.v qF,.c,.c] ?_);cases b:(decide ((65:Int)<=(c:Int)))
  .
   have j:=oF b;refine lB 11 b (lL a ac (lG 13 ?_));exact lG 14 (lL a [.v qF,.v qF,.c] (af a [] qF (congrArg Value.bool (decide_eq_false (by unfold dI;omega)).symm)))
  have j:=oT b;refine lB 11 b (lL a aF ?_);cases f:(decide ((c:Int)<=(90:Int)))
  .
   have l:=oF f;exact lB 14 f (lL a [.v qF,.v qF,.c] (af a [] qF (congrArg Value.bool (decide_eq_false (by unfold dI;omega)).symm)))
  have l:=oT f;exact lB 14 f (lL a [.v qT,.v qT,.c] (af a [] qT (congrArg Value.bool (decide_eq_true (by unfold dI;omega)).symm)))
 have i:=oT d;refine lB 4 d (lL a aF ?_);cases e:(decide ((c:Int)<=(122:Int)))
 .
  have k:=oF e;refine lB 7 e (lL a [.v qF,.c,.c] ?_);have ⟨o,x⟩:=dT (p:=(65:Int)<=(c:Int)) oM;refine lB 11 o (lL a aF ?_);have ⟨u,y⟩:=dF (p:=(c:Int)<=(90:Int)) oM;exact lB 14 u (lL a [.v qF,.v qF,.c] (af a [] qF (congrArg Value.bool (decide_eq_false (by unfold dI;omega)).symm)))
 have k:=oT e;refine lB 7 e (lL a [.v qT,.c] (lG 10 ?_));exact lG 11 (lG 12 (lG 13 (lG 14 (lG 15 (lL a [.v qT,.c] (af a [] qT (congrArg Value.bool (decide_eq_true (by unfold dI;omega)).symm)))))))
theorem gp (c:Nat)(i:c<256)(w:World)(h:Hp)(g:G w h):CV 26 #[.int .u8 (c:Nat)] w h (.bool (decide (48<=(c)/\(c)<=57))):=by
 have a:=sS g;refine go Tryz.func26 [(0,.int .u8 (c:Nat))] rfl (aa a ac (aE (lL a ac ?_)));cases d:(decide ((48:Int)<=(c:Int)))
 .
  have e:=oF d;refine lB 4 d (lL a ac (lG 6 ?_));exact lG 7 (lL a [.v qF,.c] (af a [] qF (congrArg Value.bool (decide_eq_false oM).symm)))
 have e:=oT d;refine lB 4 d (lL a aF ?_);cases b:(decide ((c:Int)<=(57:Int)))
 .
  have f:=oF b;exact lB 7 b (lL a [.v qF,.c] (af a [] qF (congrArg Value.bool (decide_eq_false oM).symm)))
 have f:=oT b;exact lB 7 b (lL a [.v qT,.c] (af a [] qT (congrArg Value.bool (decide_eq_true oM).symm)))
theorem wP (s:ByteArray)(w:World)(h:Hp)(g:G w h):CV 27 #[.string s] w h (.tuple #[iV (ag s),iV (gH s)]):=by
 have a:=sS g;refine go Tryz.func27 [(0,.string s)] rfl (aa a aF (ai (aa a ac (bE (aG ?_)))));cases c:(kn s (⟨#[97,98,115]⟩))
 .
  have j:=gt c;refine lB 6 c (lL a ac (ah (aG ?_)));cases b:(kn s (⟨#[114,97,109,112]⟩))
  .
   have k:=gt b;refine lB 8 b (lL a ac (ah (aG ?_)));cases f:(kn s (⟨#[98,101,110,100]⟩))
   .
    have o:=gt f;refine lB 10 f (lL a ac (ah (aG ?_)));cases d:(kn s (⟨#[109,97,120]⟩))
    .
     have l:=gt d;refine lB 12 d (lL a ac (ah (aG ?_)));cases e:(kn s (⟨#[109,105,110]⟩))
     .
      have i:=gt e;refine lB 14 e (lL a ac (ah (cK (aa a aF (lN (kX ?_))))));have p:ag s=0:=by unfold ag;rw[if_neg (by assumption:¬s=⟨#[97,98,115]⟩),if_neg (by assumption:¬s=⟨#[114,97,109,112]⟩),if_neg (by assumption:¬s=⟨#[98,101,110,100]⟩),if_neg (by assumption:¬s=⟨#[109,97,120]⟩),if_neg (by assumption:¬s=⟨#[109,105,110]⟩)]
      exact a.ret [] (.tuple #[iV 0,iV 0]) (by unfold gH;rw[p];rfl)
     have i:=f7 e;exact lB 14 e (lL a ac (aj (aa a aF (af a [] (.tuple #[iV 13,iV 2]) (by rw[(by assumption:s=⟨#[109,105,110]⟩)];rfl)))))
    have l:=f7 d;exact lB 12 d (lL a ac (aj (aa a aF (af a [] (.tuple #[iV 12,iV 2]) (by rw[(by assumption:s=⟨#[109,97,120]⟩)];rfl)))))
   have o:=f7 f;exact lB 10 f (lL a ac (aj (aa a aF (af a [] (.tuple #[iV 11,iV 1]) (by rw[(by assumption:s=⟨#[98,101,110,100]⟩)];rfl)))))
  have k:=f7 b;exact lB 8 b (lL a ac (aj (aa a aF (af a [] (.tuple #[iV 10,iV 1]) (by rw[(by assumption:s=⟨#[114,97,109,112]⟩)];rfl)))))
 have j:=f7 c;exact lB 6 c (lL a ac (aj (aa a aF (af a [] (.tuple #[iV 9,iV 1]) (by rw[(by assumption:s=⟨#[97,98,115]⟩)];rfl)))))
theorem qU (s:ByteArray)(a:s.size<=1000000)(w:World)(h:Hp)(g:G w h):CV 9 #[.string s] w h (.bool (cD s)):=by
 have a:=sS g;refine go Tryz.func9 [(0,.string s)] rfl (aa a ac (ai (aa a [.c,.v (nV s.size)] ?_)));cases l:(decide ((s.size:Int)<(1:Int)))
 .
  have y:=oF l;refine lB 8 l (lL a [.c,.c,.v (nV s.size)] ?_);cases e:(decide ((20:Int)<(s.size:Int)))
  .
   have z:=oF e;refine lB 12 e (lL a [.v qF,.c,.c] (lV 16 (.int .u8 (ak s 0:Nat)) ?_ (hr:=aU (tx:=9) (x:=.tmp 15) (i:=.const (iV 0)) (k:=.i64) (s:=s) (n:=0) (j:=(0:Int)) kR kR kR kR oM oM _)));refine aq 17 a (ji ((ak s 0)) (bh _ _) _ _ a.g) (fun w3 W a=>?_);cases D:(decide (dI ((ak s 0))))
   .
    have p:=oF D;exact lL a [.v qT,.v qT] (aj (aa a ac (af a [] qF (mB (fun b=>by have C:=b.1;have F:=b.2.1;first|omega|exact absurd b.2.2 aM)))))
   have p:=oT D;refine lL a [.v qF,.v qF] (ah (cK (cQ (aa a ac (bE ?_)))));refine bG _ (CG.loop (fun J Γ Z=>∃ (k:Nat)(b:Hp),J=s.size-k/\Γ=[(0,.string s),(3,nV k)]/\SS w h Z b [] [] []/\k<=s.size/\(∀ i,i<k->kd (ak s i))) _ ⟨0,W,rfl,rfl,a.to _ _,JH _,(fun i hi=>absurd hi (Kk i))⟩ ?_);rintro _ _ w6 ⟨k,h7,Q,rfl,a,hk,d⟩;refine cQ (aa a [.c,.c,.v (nV s.size)] ?_);cases f:(decide ((k:Int)<(s.size:Int)))
   .
    have u:=oF f;refine lB 23 f (ah (CG.exit ?_))
    show CG _ _ _ _ _ _ _ _
    refine aa a ac (aq 46 a (wP s _ _ a.g) (fun _ _ a=>lL a [.c,.v (iV (ag s)),.v (iV (gH s)),.c,.c] (aE (lL a ac ?_))));cases I:(((ag s):Int) == (0:Int))
    .
     have X:=ao I;refine lB 50 I (lL a ac (lN (kX ?_)));have o:=Bj (s:=s) ⟨by omega,by omega⟩ aM (fun i hi=>d i oM);exact a.ret [] qF (congrArg Value.bool (by rw[o];unfold bU;simp only[ne_eq,decide_not,Km];exact (decide_eq_false oM).symm))
    have X:=eq_of_beq I;refine lB 50 I (lL a ac (lN (kX ?_)));have o:=Bj (s:=s) ⟨by omega,by omega⟩ aM (fun i hi=>d i oM);exact a.ret [] qT (congrArg Value.bool (by rw[o];unfold bU;simp only[ne_eq,decide_not,Km];exact (decide_eq_true oM).symm))
   have u:=oT f;refine lB 23 f (aj (cK (cQ (kZ (aa a aF (lV 28 (.int .u8 (ak s k:Nat)) ?_ (hr:=aU (tx:=9) (x:=.tmp 26) (i:=.tmp 27) (k:=.i64) (s:=s) (n:=k) (j:=(k:Int)) kR kR kR kR oM oM _)))))));refine aq 29 a (ji ((ak s k)) (bh _ _) _ _ a.g) (fun _ V a=>?_);cases L:(decide (dI ((ak s k))))
   .
    have Y:=oF L;refine lL a [.v qT,.c,.c,.c] (lV 34 (.int .u8 (ak s k:Nat)) ?_ (hr:=aU (tx:=9) (x:=.tmp 32) (i:=.tmp 33) (k:=.i64) (s:=s) (n:=k) (j:=(k:Int)) kR kR kR kR oM oM _));refine aq 35 a (gp ((ak s k)) (bh _ _) _ _ a.g) (fun _ K a=>?_);cases O:(decide (48<=((ak s k))/\((ak s k))<=57))
    .
     have S:=oF O;refine lL a [.v qT,.v qT,.c,.c,.c] (lV 41 (.int .u8 (ak s k:Nat)) ?_ (hr:=aU (tx:=9) (x:=.tmp 39) (i:=.tmp 40) (k:=.i64) (s:=s) (n:=k) (j:=(k:Int)) kR kR kR kR oM oM _));cases H:(((ak s k:Nat):Int) != (95:Int))
     .
      have U:=ay H;refine lB 42 H (lL a [.v qF] (ah (cK (kQ (lL a ac (bg 25 ((k:Nat)+1) (k+1) ?_))))));refine lL a ac (lD ?_);intro M B;refine ⟨_,_,?_,⟨k+1,K,rfl,rfl,a.to _ _,oM,(fun i hi=>by rcases Kl.1 hi with b|rfl;exact d i b;unfold kd;unfold dI at *;omega)⟩,B.to _ kR⟩
      omega
     have U:=a6 H;exact lB 42 H (lL a [.v qT] (aj (aa a ac (af a [] qF (Dp (i:=k) oM (fun b=>by unfold kd at b;unfold dI at *;omega))))))
    have S:=oT O;refine lL a [.v qF,.v qF,.c] (lG 39 ?_);refine lG 40 (lG 41 (lG 42 (lL a [.v qF] (ah (cK (kQ (lL a ac (bg 25 ((k:Nat)+1) (k+1) ?_))))))));refine lL a ac (lD ?_);intro M B;refine ⟨_,_,?_,⟨k+1,K,rfl,rfl,a.to _ _,oM,(fun i hi=>by rcases Kl.1 hi with b|rfl;exact d i b;unfold kd;unfold dI at *;omega)⟩,B.to _ kR⟩
    omega
   have Y:=oT L;refine lL a [.v qF,.c] (lG 32 ?_);refine lG 33 (lG 34 (lG 35 (lG 36 (lL a [.v qF,.c] (lG 39 ?_)))));refine lG 40 (lG 41 (lG 42 (lL a [.v qF] (ah (cK (kQ (lL a ac (bg 25 ((k:Nat)+1) (k+1) ?_))))))));refine lL a ac (lD ?_);intro M B;refine ⟨_,_,?_,⟨k+1,V,rfl,rfl,a.to _ _,oM,(fun i hi=>by rcases Kl.1 hi with b|rfl;exact d i b;unfold kd;unfold dI at *;omega)⟩,B.to _ kR⟩
   omega
  have z:=oT e;refine lB 12 e (lL a [.v qT,.c] (lG 15 ?_));exact lG 16 (lG 17 (lG 18 (lL a [.v qT] (aj (aa a ac (af a [] qF (mB (fun b=>by have C:=b.1;have F:=b.2.1;first|omega|exact absurd b.2.2 aM))))))))
 have y:=oT l;refine lB 8 l (lL a ac (lG 10 ?_));refine lG 11 (lG 12 (lL a [.v qT,.c] (lG 15 ?_)));exact lG 16 (lG 17 (lG 18 (lL a [.v qT] (aj (aa a ac (af a [] qF (mB (fun b=>by have C:=b.1;have F:=b.2.1;first|omega|exact absurd b.2.2 aM))))))))
structure LayLen (L:Lay):Prop where
  rl:L.W.length<=1000000
  rls:∀ i,i<L.W.length->(L.W.getD i []).length<=1000000
  bl:L.B.length<=1000000
structure Mat (W:List (List Rat)) (r c:Nat):Prop where
  rows:W.length=r
  rpos:0<r
  cpos:0<c
  row:∀ i,i<r->(W.getD i []).length=c
structure Net3 (ls:List Lay) (d:Nat->Nat):Prop where
  len:1<=ls.length/\ls.length<=4
  first:d 0<=20
  lay:∀ i,i<ls.length->Mat (ls.getD i iC).W (d (i+1)) (d i)/\(ls.getD i iC).B.length=d (i+1)/\d (i+1)<=12/\((ls.getD i iC).k=1\/(ls.getD i iC).k=2\/(ls.getD i iC).k=3)
def IT (k:Int)(u:Rat):Rat:=if k=2 then Ip u 0 else if k=3 then u/(((1:Int):Rat)+Iw u) else u
def HJ (L:Lay)(x:List Rat):List Rat:=(List.range L.W.length).map fun i=>IT L.k (Eu (L.W.getD i []) x x.length+L.B.getD i 0)
def BB (ls:List Lay)(xs:List Rat):Nat->List Rat
  | 0=>xs
  | k+1=>HJ (ls.getD k iC) (BB ls xs k)
abbrev gD (ls:List Lay)(xs:List Rat)(k r:Nat):Rat:=Eu ((ls.getD k iC).W.getD r []) (BB ls xs k) (BB ls xs k).length
abbrev gS (ls:List Lay)(xs:List Rat)(k r:Nat):Rat:=gD ls xs k r+((ls.getD k iC).B).getD r 0
structure NetB (ls:List Lay) (xs:List Rat):Prop where
  w:∀ k i j,LQ 1000000 (((ls.getD k iC).W.getD i []).getD j 0)
  b:∀ k i,LQ 1000000 ((ls.getD k iC).B.getD i 0)
  x:∀ k,k<=ls.length->∀ j,LQ 1000000 ((BB ls xs k).getD j 0)
structure LaySz (L:Lay):Prop where
  rl:L.W.length<=8
  rls:∀ i,(L.W.getD i []).length<=8
  bl:L.B.length<=8
  w:∀ i j,LQ 1 ((L.W.getD i []).getD j 0)
  b:∀ i,LQ 1 (L.B.getD i 0)
  b4:L.B.length<=4
  w4:(L.W.getD 0 []).length<=4
theorem FG {k:Nat}(h:1<=k):LQ k 0:=(LQ.lit (z:=0) kD).mono h
theorem ut (a:Rat):fr a a=0:=by unfold fr dQ;rw[if_neg oM,if_neg oM]
structure LayS4 (L:Lay):Prop where
  rl:L.W.length<=4
  rls:∀ i,(L.W.getD i []).length<=4
  bl:L.B.length<=4
  w:∀ i j,LQ 1 ((L.W.getD i []).getD j 0)
  b:∀ i,LQ 1 (L.B.getD i 0)
def IC (op n:Int)(a b:Rat):Prop:=(op=6->b≠0)/\(op=8->n<0->a≠0)
instance (op n:Int) (a b:Rat):Decidable (IC op n a b):=by unfold IC;infer_instance
def IJ (op:Int)(a b:Rat):Prop:=(op=9\/op=10)/\a=0\/(op=12\/op=13)/\a=b
instance (op:Int) (a b:Rat):Decidable (IJ op a b):=by unfold IJ;infer_instance
theorem An {α:Type}{l:List α}{d x:α}{k i:Nat}(a:k<l.length):(l.set k x).getD i d=if i=k then x else l.getD i d:=by
 rw[A6,List.getElem?_set]
 by_cases e:k=i
 ·subst e;rw[if_pos rfl,if_pos a,if_pos rfl];rfl
 ·rw[if_neg e,if_neg (fun h=>e h.symm),<-A6]
def TmsU (d:Nat)(h:Hp)(k:Nat)(ps:List PTm)(ts:List Tm):Prop:=∀ i,i<k->TmH d h (ps.getD i a7) (ts.getD i cc)
theorem TmsU.gw {d:Nat}{h b:Hp}{k:Nat}{ps:List PTm}{a:List Tm}(x:TmsU d h k ps a)(u:Gw h b):TmsU d b k ps a:=fun i hi=>(x i hi).gw u
theorem TmsU.set {d:Nat}{h:Hp}{k:Nat}{ps:List PTm}{a:List Tm}{p:PTm}(x:TmsU d h k ps a)(b:k<ps.length)(y:TmH d h p (a.getD k cc)):TmsU d h (k+1) (ps.set k p) a:=fun i hi=>by
 rw[An b]
 by_cases e:i=k
 ·subst e;rw[if_pos rfl];exact y
 ·rw[if_neg e];exact x i oM
theorem Tms.of_u {d:Nat}{h:Hp}{k:Nat}{ps:List PTm}{a:List Tm}(b:ps.length=a.length)(c:a.length<=k)(x:TmsU d h k ps a):Tms d h ps a:=⟨b,fun i hi=>x i oM⟩
theorem tE (f:Nat->Nat){a b:Nat}(h:a<=b):f0 f a<=f0 f b:=by
 induction h with
 | refl=>exact eb _
 | step _ ih=>exact ed ih (Nat.le_add_right _ _)
def oR (op n:Int):Nat:=if op=11 then 2 else if op=8 then cX n else 1
theorem iY (op n:Int):1<=oR op n:=by
 unfold oR cX
 split
 ·omega
 ·split
  ·split<;>omega
  ·omega
theorem CO {d:Nat}{op n:Int}{q:Rat}{s:ByteArray}{ks:List Tm}(h:ks.length=0):ek (d+1) (.mk op n q s ks)=1:=if_pos h
theorem oV {d:Nat}{op n:Int}{q:Rat}{s:ByteArray}{ks:List Tm}(h:ks.length≠0):ek (d+1) (.mk op n q s ks)=oR op n*f0 (fun i=>ek d (ks.getD i cc)) ks.length:=if_neg h
theorem E2 {d:Nat}{op n:Int}{q:Rat}{s:ByteArray}{ks:List Tm}(h:ks.length≠0):f0 (fun i=>ek d (ks.getD i cc)) ks.length<=ek (d+1) (.mk op n q s ks):=by
 rw[oV h];exact J9 _ (iY op n)
theorem lE {m s:Nat}(h:1<=m):min (m*min s 1001) 1001=min (m*s) 1001:=by
 rcases Nat.le_total s 1001 with e|e
 ·rw[Nat.min_eq_left e]
 ·rw[Ja e,Ja (ed e (J9 _ h)),Ja (J9 _ h)]
theorem ni (op:Int)(w:World)(h:Hp)(g:G w h):CV 52 #[iV op] w h (iV (fH op)):=by
 have a:=sS g;refine go Tryz.func52 [(0,iV op)] rfl (aa a ac (ai (aa a ac (bE (cQ (aG ?_))))));cases k:((op:Int) == (1:Int))
 .
  have u:=ao k;refine lB 5 k (lL a ac (ah (kQ ?_)));cases b:((op:Int) == (2:Int))
  .
   have x:=ao b;refine lB 6 b (lL a ac (ah (cQ (aG ?_))));cases i:((op:Int) == (7:Int))
   .
    have y:=ao i;refine lB 8 i (lL a ac (ah (aG ?_)));cases d:((op:Int) == (8:Int))
    .
     have C:=ao d;refine lB 9 d (lL a ac (ah (aG ?_)));cases f:((op:Int) == (9:Int))
     .
      have o:=ao f;refine lB 10 f (lL a ac (ah (aG ?_)));cases e:((op:Int) == (10:Int))
      .
       have D:=ao e;refine lB 11 e (lL a ac (ah (kQ ?_)));cases c:((op:Int) == (11:Int))
       .
        have B:=ao c;refine lB 12 c (lL a ac (ah (cQ (aG ?_))));cases l:((op:Int) == (3:Int))
        .
         have z:=ao l;refine lB 14 l (lL a ac (ah (aG ?_)));cases j:((op:Int) == (4:Int))
         .
          have p:=ao j;refine lB 15 j (lL a ac (ah (aG ?_)));cases I:((op:Int) == (5:Int))
          .
           have M:=ao I;refine lB 16 I (lL a ac (ah (aG ?_)));cases F:((op:Int) == (6:Int))
           .
            have O:=ao F;refine lB 17 F (lL a ac (ah (aG ?_)));cases H:((op:Int) == (12:Int))
            .
             have K:=ao H;refine lB 18 H (lL a ac (ah (kQ ?_)));cases J:((op:Int) == (13:Int))
             .
              have L:=ao J;exact lB 19 J (lL a ac (ah (cK (aa a ac (af a [] (iV (-1)) (congrArg (Value.int .i64) (by have:=aT op;omega)))))))
             have L:=eq_of_beq J;exact lB 19 J (lL a ac (aj (aa a ac (af a [] (iV 2) (congrArg (Value.int .i64) (by have:=aT op;omega))))))
            have K:=eq_of_beq H;exact lB 18 H (lL a ac (aj (cK (ci (aa a ac (af a [] (iV 2) (congrArg (Value.int .i64) (by have:=aT op;omega))))))))
           have O:=eq_of_beq F;exact lB 17 F (lL a ac (aj (cK (ci (aa a ac (af a [] (iV 2) (congrArg (Value.int .i64) (by have:=aT op;omega))))))))
          have M:=eq_of_beq I;exact lB 16 I (lL a ac (aj (cK (ci (aa a ac (af a [] (iV 2) (congrArg (Value.int .i64) (by have:=aT op;omega))))))))
         have p:=eq_of_beq j;exact lB 15 j (lL a ac (aj (cK (ci (aa a ac (af a [] (iV 2) (congrArg (Value.int .i64) (by have:=aT op;omega))))))))
        have z:=eq_of_beq l;exact lB 14 l (lL a ac (aj (cK (ci (aa a ac (af a [] (iV 2) (congrArg (Value.int .i64) (by have:=aT op;omega))))))))
       have B:=eq_of_beq c;exact lB 12 c (lL a ac (aj (aa a ac (af a [] (iV 1) (congrArg (Value.int .i64) (by have:=aT op;omega))))))
      have D:=eq_of_beq e;exact lB 11 e (lL a ac (aj (cK (ci (aa a ac (af a [] (iV 1) (congrArg (Value.int .i64) (by have:=aT op;omega))))))))
     have o:=eq_of_beq f;exact lB 10 f (lL a ac (aj (cK (ci (aa a ac (af a [] (iV 1) (congrArg (Value.int .i64) (by have:=aT op;omega))))))))
    have C:=eq_of_beq d;exact lB 9 d (lL a ac (aj (cK (ci (aa a ac (af a [] (iV 1) (congrArg (Value.int .i64) (by have:=aT op;omega))))))))
   have y:=eq_of_beq i;exact lB 8 i (lL a ac (aj (cK (ci (aa a ac (af a [] (iV 1) (congrArg (Value.int .i64) (by have:=aT op;omega))))))))
  have x:=eq_of_beq b;exact lB 6 b (lL a ac (aj (aa a ac (af a [] (iV 0) (congrArg (Value.int .i64) (by have:=aT op;omega))))))
 have u:=eq_of_beq k;exact lB 5 k (lL a ac (aj (cK (ci (aa a ac (af a [] (iV 0) (congrArg (Value.int .i64) (by have:=aT op;omega))))))))
theorem E5 (n:Int)(h0 : -12<=n)(h1:n<=12)(w:World)(h:Hp)(g:G w h):CV 54 #[iV n] w h (nV (cX n)):=by
 have a:=sS g;refine go Tryz.func54 [(0,iV n)] rfl (aa a ac (ai (aa a ac ?_)));cases c:(decide ((n:Int)<=(-1073741824:Int)))
 .
  have d:=oF c;refine lB 4 c (lL a aF ?_);cases b:(decide ((1073741824:Int)<=(n:Int)))
  .
   have e:=oF b;refine lB 7 b (lL a [.v qF] (ah (cK (aa a aF (lI 11 (0-n) ?_)))));refine lV 12 (iV (max (max (n:Int) (0-n:Int)) (1:Int))) ?_ (hr:=aN (n:=(if (1:Int)>(if (0-n:Int)>(n:Int) then (0-n:Int) else (n:Int)) then (1:Int) else (if (0-n:Int)>(n:Int) then (0-n:Int) else (n:Int)))) kR (by simp only[GV]));exact lL a ac (af a [] (iV (max (max (n:Int) (0-n:Int)) (1:Int))) (congrArg (Value.int .i64) (by unfold cX;(repeat' split)<;>omega)))
  have e:=oT b;exact lB 7 b (lL a [.v qT] (aj (aa a ac (af a [] (iV 1073741824) (congrArg (Value.int .i64) (by unfold cX;(repeat' split)<;>omega))))))
 have d:=oT c;refine lB 4 c (lL a ac (lG 6 ?_));exact lG 7 (lL a [.v qT] (aj (aa a ac (af a [] (iV 1073741824) (congrArg (Value.int .i64) (by unfold cX;(repeat' split)<;>omega))))))
theorem xG  (sm:ByteArray->Prop)(d:Nat)(D:∀ (p:PTm) (t:Tm) (a:Int) (w:World) (h:Hp),G w h->TmH d h p t->SmT sm d t->(d:Int)<=a->a<=1000->Calls Tryz.prog 32 #[a8 p,iV a] w (Ret w h (fun v _=>v=.bool false)))(op n:Int)(q:Rat)(s:ByteArray)(A:Z9)(c:Nat)(ps:List PTm)(ks:List Tm)(Y:ps.length<=c)(M:ps.length<=3)(U:ks.length<=3)(L : -1000<=op/\op<=1000)(hn : -1000<=n/\n<=1000)(hq:LQ 3000 q)(W:sm s)(V:∀ i,i<ks.length->SmT sm d (ks.getD i cc))(a:Int)(X:((d+1:Nat):Int)<=a)(S:a<=1000)(w:World)(h:Hp)(g:G w h)(H:SlO 9 bv a7 h A ps)(z:Tms d h ps ks):CV 32 #[a8 ⟨op,n,q,s,A,ps.length,c⟩,iV a] w h (.bool false):=by
 have b:=(((sS g).aS H).add (K:=fun l=>Tms d l ps ks) z);have J:=(b.f.1).len;refine go Tryz.func32 [(0,a8 ⟨op,n,q,s,A,ps.length,c⟩),(1,iV a)] rfl (aG (lA 2 33 (bv ⟨op,n,q,s,A,ps.length,c⟩) b (fun B w2 Q b=>lL b ac (ai (aa b ac ?_)))));cases e:(decide ((a:Int)<(1:Int)))
 .
  have x:=oF e;refine lB 8 e (ah (cK (cQ (aa b [.v (qP B 8),.o (qS A ps.length c) 0 8 1,.v (nV ps.length),.c] (bE ?_)))));refine bG _ (CG.loop (fun y Γ C=>∃ (k:Nat)(l:Hp),y=ps.length-k/\Γ=[(1,iV a),(10,qS A ps.length c),(11,nV ps.length),(12,nV k)]/\SS w h C l [⟨B,33,bv ⟨op,n,q,s,A,ps.length,c⟩⟩] [] [fun l=>Tms d l ps ks,fun l=>SlO 9 bv a7 l A ps]/\k<=ps.length) _ ⟨0,Q,rfl,rfl,b.to _ _,JH _⟩ ?_);rintro _ _ w5 ⟨k,h6,O,rfl,b,Z⟩;refine aG ?_;cases j:(decide ((k:Int)<(ps.length:Int)))
  .
   have u:=oF j;refine lB 13 j (ai (da (CG.exit ?_)))
   show CG _ _ _ _ _ _ _ _
   exact aa b ac (af b [] qF rfl)
  have u:=oT j;refine lB 13 j (ai (ci (cK (cQ (kZ (aG (lX 14 A ps.length c 9 (k:Nat) k ((b.f.2.1).ok oM) ?_)))))));refine lH 15 (a8 (ps.getD k a7)) b ((b.f.2.1).el k oM) (lA 6 33 a2 b (fun b9 _ _ b=>lP 0 0 (bv (ps.getD k a7)) b (fun _ b=>aE (lL b [.o (a8 (ps.getD k a7)) 0 0 9,.c] (lI 18 (a-1) ?_)))));refine aq 19 b (D (ps.getD k a7) (ks.getD k cc) (a-1) _ _ b.g ((b.f.1).at_ k oM) (V k oM) oM oM) (fun _ I b=>ah (cK (kQ (bg 20 ((k:Nat)+1) (k+1) ?_))));refine lL b ac (lD ?_);intro a_ F;replace b:=b.drop 1 0;refine ⟨_,_,?_,⟨k+1,I,rfl,rfl,b.to _ _,oM⟩,F.to _ kR⟩
  omega
 have x:=oT e;refine lB 8 e (aj (aa b ac (lN (kX ?_))))
 exfalso;omega
theorem sI (sm:ByteArray->Prop):∀ (d:Nat) (p:PTm) (t:Tm) (a:Int) (w:World) (h:Hp),G w h->TmH d h p t->SmT sm d t->(d:Int)<=a->a<=1000->Calls Tryz.prog 32 #[a8 p,iV a] w (Ret w h (fun v _=>v=.bool false))
  | 0,_,_,_,_,_,_,x,_,_,_=>x.elim
  | d+1,p,t,a,w,h,g,x,wf,hm,hm2=>by
    obtain ⟨op,n,q,s,A,c,ps,ks,rfl,rfl,f,k,b⟩:=x.open;obtain ⟨e,l,o,u,y,i⟩:=wf;have j:ks.length<=3:=e;exact xG sm d (fun p t a w h=>sI sm d p t a w h) op n q s A c ps ks f (by have:=b.len;omega) e l o u y i a hm hm2 w h g k b
theorem vp  (isb:ByteArray->Bool)(sm:ByteArray->Prop)(hIs:∀ s,sm s->∀ (w:World) (h:Hp),G w h->Calls Tryz.prog 8 #[.string s] w (Ret w h (fun v _=>∃ b,v=.bool b/\b=isb s)))(d:Nat)(ih:∀ (p:PTm) (t:Tm) (w:World) (h:Hp),G w h->TmH d h p t->SmT sm d t ->  Calls Tryz.prog 33 #[a8 p] w (Ret w h (fun v _=>∃ L,v=.bool L/\(L=true↔WfT (fun s=>isb s=true) d t))))(op n:Int)(q:Rat)(s:ByteArray)(A:Z9)(c:Nat)(ps:List PTm)(ks:List Tm)(hc:ps.length<=c)(hlp:ps.length<=3)(hk3:ks.length<=3)(hop : -1000<=op/\op<=1000)(hn : -1000<=n/\n<=1000)(hq:LQ 3000 q)(hsm:sm s)(hW:∀ i,i<ks.length->SmT sm d (ks.getD i cc))(w:World)(h:Hp)(g:G w h)(hK:SlO 9 bv a7 h A ps)(hKs:Tms d h ps ks):CR 33 #[a8 ⟨op,n,q,s,A,ps.length,c⟩] w h (fun v _=>∃ L,v=.bool L/\(L=true↔WfT (fun s=>isb s=true) (d+1) (.mk op n q s ks))):=by
 have a:=(((sS g).aS hK).add (K:=fun e=>Tms d e ps ks) hKs);have hln:=(a.f.1).len;have hsg:q.num.sign=0↔q.num=0:=Ko;refine go Tryz.func33 [(0,a8 ⟨op,n,q,s,A,ps.length,c⟩)] rfl (aG (lA 1 33 (bv ⟨op,n,q,s,A,ps.length,c⟩) a (fun l w2 h3 a=>lL a ac (ai (cQ (cR 7 [] mixed a aw ?_))))));refine eV 0 5 (pB l) (eO 1 6 [(0,0,1)] (iV op) a (eV 3 8 (qP l 8) (eO 4 9 [(0,8,1)] (qS A ps.length c) a (eV 5 10 (nV ps.length) (aK 2 7 a (fun _ _ a=>ni op _ _ a.g) (fun w4 h5 a=>?_))))));cases z:((fH op:Int) != (ps.length:Int))
 .
  have I:=ay z;refine eB 6 11 z (cG a (fun w7 h8 a=>?_));refine tN (da (cK (cQ (CG.join (fun Γ B=>∃ (M:Bool)(e:Hp),Γ=[(1,pB l),(2,qF),(20,.bool M)]/\SS w h B e [⟨l,33,bv ⟨op,n,q,s,A,ps.length,c⟩⟩] [] [fun e=>Tms d e ps ks,fun e=>SlO 9 bv a7 e A ps]/\(M=true->¬(op=1\/q.num=0))/\(M=false->(op=1\/q.num=0))) ?_ ?_))))
  .
   refine kQ (lL a [.v (pB l),.o (iV op) 0 0 1] ?_);cases y:((op:Int) != (1:Int))
   .
    have C:=ay y;refine lB 14 y (lL a ac (lG 16 ?_));refine lG 17 (lG 18 (lG 19 (lL a [.v qF] (lD ?_))));intro u j;exact ⟨_,⟨false,h8,rfl,a.to _ _,(fun e=>absurd e kD),(fun _=>by omega)⟩,j.to _ kR⟩
   have C:=a6 y;refine lB 14 y (lL a [.c,.v (qP l 2),.o (qv q) 0 2 5] (aq 18 a (mM q (hq.mono oM) _ _ a.g) (fun _ zD a=>?_)));cases W:((q.num.sign:Int) != (0:Int))
   .
    have zs:=ay W;refine lB 19 W (lL a [.v qF] (lD ?_));intro u j;exact ⟨_,⟨false,zD,rfl,a.to _ _,(fun e=>absurd e kD),(fun _=>by omega)⟩,j.to _ kR⟩
   have zs:=a6 W;refine lB 19 W (lL a [.v qT] (lD ?_));intro u j;exact ⟨_,⟨true,zD,rfl,a.to _ _,(fun _=>by omega),(fun e=>absurd e kD)⟩,j.to _ kR⟩
  rintro _ _ ⟨M,zE,rfl,a,zH,D⟩;cases zb:(M)
  .
   try rw[zb] at a
   try rw[zb]
   refine da (cK (cQ (CG.join (fun Γ B=>∃ (H:Bool)(e:Hp),Γ=[(1,pB l),(2,qF),(39,.bool H)]/\SS w h B e [⟨l,33,bv ⟨op,n,q,s,A,ps.length,c⟩⟩] [] [fun e=>Tms d e ps ks,fun e=>SlO 9 bv a7 e A ps]/\(H=true->¬((op=2->isb s=true)/\(op≠2->s=⟨#[]⟩)))/\(H=false->((op=2->isb s=true)/\(op≠2->s=⟨#[]⟩)))) ?_ ?_)))
   .
    refine kQ (lL a [.v (pB l),.o (iV op) 0 0 1] ?_);cases zc:((op:Int) == (2:Int))
    .
     have zt:=ao zc;refine lB 23 zc (lL a ac (lG 25 ?_));refine lG 26 (lG 27 (lG 28 (lL a [.v qF,.c,.v (pB l),.o (iV op) 0 0 1] ?_)));have zq:((op:Int) != (2:Int))=true:=Aj oM;have bm:=a6 zq;refine lB 33 zq (lL a [.c,.v (qP l 7),.o (.string s) 0 7 1] ?_);cases zd:(j4 s (⟨#[]⟩))
     .
      have zu:=ku zd;refine lB 37 zd (lL a [.v qF,.v qF] (lD ?_));intro u j;exact ⟨_,⟨false,zE,rfl,a.to _ _,(fun e=>absurd e kD),(fun _=>⟨fun e=>by first|exact x.symm.trans aM|exact absurd e oM,fun e=>by first|assumption|exact absurd e oM⟩)⟩,j.to _ kR⟩
     have zu:=kF zd;refine lB 37 zd (lL a [.v qT,.v qT] (lD ?_));intro u j;exact ⟨_,⟨true,zE,rfl,a.to _ _,(fun _ e=>by first|exact Kp ((e.1 oM).symm.trans (x.symm.trans aM))|exact absurd (e.2 oM) aM),(fun e=>absurd e kD)⟩,j.to _ kR⟩
    have zt:=eq_of_beq zc;refine lB 23 zc (lL a [.c,.v (qP l 7),.o (.string s) 0 7 1] (lC 27 a (hIs s hsm _ _ a.g) ?_));rintro _ _ zG a ⟨bi,rfl,x⟩;cases bt:(bi)
    .
     refine lL a [.v qT,.v qT,.c] (lG 31 ?_);refine lG 32 (lG 33 (lG 34 (lG 35 (lG 36 (lG 37 (lG 38 (lL a [.v qT] (lD ?_))))))));intro u j;exact ⟨_,⟨true,zG,rfl,a.to _ _,(fun _ e=>by first|exact Kp ((e.1 oM).symm.trans (x.symm.trans aM))|exact absurd (e.2 oM) aM),(fun e=>absurd e kD)⟩,j.to _ kR⟩
    refine lL a [.v qF,.v qF,.c,.v (pB l),.o (iV op) 0 0 1] ?_;have zr:((op:Int) != (2:Int))=false:=mi oM;have bd:=ay zr;refine lB 33 zr (lL a ac (lG 35 ?_));refine lG 36 (lG 37 (lL a [.v qF,.v qF] (lD ?_)));intro u j;exact ⟨_,⟨false,zG,rfl,a.to _ _,(fun e=>absurd e kD),(fun _=>⟨fun e=>by first|exact x.symm.trans aM|exact absurd e oM,fun e=>by first|assumption|exact absurd e oM⟩)⟩,j.to _ kR⟩
   rintro _ _ ⟨H,Q,rfl,a,zI,U⟩;cases ze:(H)
   .
    try rw[ze] at a
    try rw[ze]
    refine da (cK (cQ (CG.join (fun Γ B=>∃ (J:Bool)(e:Hp),Γ=[(1,pB l),(2,qF),(57,.bool J)]/\SS w h B e [⟨l,33,bv ⟨op,n,q,s,A,ps.length,c⟩⟩] [] [fun e=>Tms d e ps ks,fun e=>SlO 9 bv a7 e A ps]/\(J=true->¬((op=8\/n=0) /\ -12<=n/\n<=12))/\(J=false->((op=8\/n=0) /\ -12<=n/\n<=12))) ?_ ?_)))
    .
     refine kQ (lL a [.v (pB l),.o (iV op) 0 0 1] ?_);cases zf:((op:Int) != (8:Int))
     .
      have zv:=ay zf;refine lB 42 zf (lL a ac (lG 44 ?_));refine lG 45 (lG 46 (lL a [.v qF,.c,.v (qP l 1),.o (iV n) 0 1 1] ?_));cases V:(decide ((n:Int)<(-12:Int)))
      .
       have zw:=oF V;refine lB 51 V (lL a [.v qF,.c,.v (qP l 1),.o (iV n) 0 1 1] ?_);cases X:(decide ((12:Int)<(n:Int)))
       .
        have zx:=oF X;refine lB 56 X (lL a [.v qF] (lD ?_));intro u j;exact ⟨_,⟨false,Q,rfl,a.to _ _,(fun e=>absurd e kD),(fun _=>by omega)⟩,j.to _ kR⟩
       have zx:=oT X;refine lB 56 X (lL a [.v qT] (lD ?_));intro u j;exact ⟨_,⟨true,Q,rfl,a.to _ _,(fun _=>by omega),(fun e=>absurd e kD)⟩,j.to _ kR⟩
      have zw:=oT V;refine lB 51 V (lL a [.v qT,.c] (lG 54 ?_));refine lG 55 (lG 56 (lL a [.v qT] (lD ?_)));intro u j;exact ⟨_,⟨true,Q,rfl,a.to _ _,(fun _=>by omega),(fun e=>absurd e kD)⟩,j.to _ kR⟩
     have zv:=a6 zf;refine lB 42 zf (lL a [.c,.v (qP l 1),.o (iV n) 0 1 1] ?_);cases zj:((n:Int) != (0:Int))
     .
      have zA:=ay zj;refine lB 46 zj (lL a [.v qF,.c,.v (qP l 1),.o (iV n) 0 1 1] ?_);have ⟨zJ,bl⟩:=dF (p:=(n:Int)<(-12:Int)) oM;refine lB 51 zJ (lL a [.v qF,.c,.v (qP l 1),.o (iV n) 0 1 1] ?_);have ⟨zK,bp⟩:=dF (p:=(12:Int)<(n:Int)) oM;refine lB 56 zK (lL a [.v qF] (lD ?_));intro u j;exact ⟨_,⟨false,Q,rfl,a.to _ _,(fun e=>absurd e kD),(fun _=>by omega)⟩,j.to _ kR⟩
     have zA:=a6 zj;refine lB 46 zj (lL a [.v qT,.c] (lG 49 ?_));refine lG 50 (lG 51 (lL a [.v qT,.c] (lG 54 ?_)));refine lG 55 (lG 56 (lL a [.v qT] (lD ?_)));intro u j;exact ⟨_,⟨true,Q,rfl,a.to _ _,(fun _=>by omega),(fun e=>absurd e kD)⟩,j.to _ kR⟩
    rintro _ _ ⟨J,zM,rfl,a,zL,F⟩;cases Z:(J)
    .
     try rw[Z] at a
     try rw[Z]
     refine da (cK (cQ (aa a [.v (qP l 8),.o (qS A ps.length c) 0 8 1,.v (nV ps.length),.c] (bE ?_))));refine bG _ (CG.loop (fun μ_ Γ B=>∃ (k:Nat)(e:Hp),μ_=ps.length-k/\Γ=[(59,qS A ps.length c),(60,nV ps.length),(61,nV k)]/\SS w h B e [⟨l,33,bv ⟨op,n,q,s,A,ps.length,c⟩⟩] [] [fun e=>Tms d e ps ks,fun e=>SlO 9 bv a7 e A ps]/\k<=ps.length/\(∀ i,i<k->WfT (fun s=>isb s=true) d (ks.getD i cc))) _ ⟨0,zM,rfl,rfl,a.to _ _,JH _,(fun i hi=>absurd hi (Kk i))⟩ ?_);rintro _ _ _ ⟨k,_,bq,rfl,a,hk,S⟩;refine aG ?_;cases Y:(decide ((k:Int)<(ps.length:Int)))
     .
      have zB:=oF Y;refine lB 62 Y (ai (da (CG.exit ?_)))
      show CG _ _ _ _ _ _ _ _
      exact aa a ac (af a [] qT (C9 ⟨by omega,D aM,U aM,F aM⟩ hq (fun i hi=>S i oM)))
     have zB:=oT Y;refine lB 62 Y (ai (ci (cK (cQ (kZ (aG (lX 63 A ps.length c 9 (k:Nat) k ((a.f.2.1).ok oM) ?_)))))));refine lH 64 (a8 (ps.getD k a7)) a ((a.f.2.1).el k oM) (lA 4 33 a2 a (fun b63 _ _ a=>lP 0 0 (bv (ps.getD k a7)) a (fun _ a=>aE (lL a [.o (a8 (ps.getD k a7)) 0 0 9] (lC 66 a (ih (ps.getD k a7) (ks.getD k cc) _ _ a.g ((a.f.1).at_ k oM) (hW k oM)) ?_)))));rintro _ _ zN a ⟨bk,rfl,O⟩;cases br:(bk)
     .
      exact lL a [.v qT] (aj (aa a ac (af a [] qF (C3 (k:=k) oM aM O))))
     refine lL a [.v qF] (ah (cK (kQ (bg 68 ((k:Nat)+1) (k+1) ?_))));refine lL a ac (lD ?_);intro u j;replace a:=a.drop 1 0;refine ⟨_,_,?_,⟨k+1,zN,rfl,rfl,a.to _ _,oM,(fun i hi=>by rcases Kl.1 hi with e|rfl;exact S i e;exact O.1 aM)⟩,j.to _ kR⟩
     omega
    try rw[Z] at a
    try rw[Z]
    exact ci (aa a ac (af a [] qF (oy (fun e=>zL aM e.2.2.2))))
   try rw[ze] at a
   try rw[ze]
   exact ci (aa a ac (af a [] qF (oy (fun e=>zI aM e.2.2.1))))
  try rw[zb] at a
  try rw[zb]
  exact ci (aa a ac (af a [] qF (oy (fun e=>zH aM e.2.1))))
 have I:=a6 z;exact eB 6 11 z (cG a (fun _ _ a=>tN (ci (aa a ac (af a [] qF (oy (fun e=>absurd e.1 oM)))))))
theorem mb (isb:ByteArray->Bool)(sm:ByteArray->Prop)(a:∀ s,sm s->∀ (w:World) (h:Hp),G w h->Calls Tryz.prog 8 #[.string s] w (Ret w h (fun v _=>∃ b,v=.bool b/\b=isb s))):∀ (d:Nat) (p:PTm) (t:Tm) (w:World) (h:Hp),G w h->TmH d h p t->SmT sm d t ->  Calls Tryz.prog 33 #[a8 p] w (Ret w h (fun v _=>∃ f,v=.bool f/\(f=true↔WfT (fun s=>isb s=true) d t)))
  | 0,_,_,_,_,_,x,_=>x.elim
  | d+1,p,t,w,h,g,x,wf=>by
    obtain ⟨op,n,q,s,A,c,ps,ks,rfl,rfl,j,o,e⟩:=x.open;obtain ⟨i,u,y,z,B,k⟩:=wf;have l:ks.length<=3:=i;exact vp isb sm a d (fun p t w h=>mb isb sm a d p t w h) op n q s A c ps ks j (by have:=e.len;omega) i u y z B k w h g o e
theorem vN  (ok:ByteArray->Prop)(d:Nat)(S:∀ (p:PTm) (t:Tm) (w:World) (h:Hp),G w h->TmH d h p t->WfT ok d t ->  Calls Tryz.prog 34 #[a8 p,iV 1001] w (Ret w h (fun v _=>v=iV ((min (ek d t) 1001:Nat):Int))))(op n:Int)(q:Rat)(s:ByteArray)(A:Z9)(c:Nat)(ps:List PTm)(ks:List Tm)(hc:ps.length<=c)(hlp:ps.length<=2)(M:fH op=(ks.length:Nat))(hq0:op≠1->q=0)(hq:LQ 3000 q)(W:op=2->ok s)(X:op≠2->s=⟨#[]⟩)(hn0:op≠8->n=0)(Z : -12<=n)(hn2:n<=12)(hW:∀ i,i<ks.length->WfT ok d (ks.getD i cc))(w:World)(h:Hp)(g:G w h)(Y:SlO 9 bv a7 h A ps)(L:Tms d h ps ks):CV 34 #[a8 ⟨op,n,q,s,A,ps.length,c⟩,iV 1001] w h (iV ((min (ek (d+1) (.mk op n q s ks)) 1001:Nat):Int)):=by
 have a:=(((sS g).aS Y).add (K:=fun y=>Tms d y ps ks) L);have hln:=(a.f.1).len;refine go Tryz.func34 [(0,a8 ⟨op,n,q,s,A,ps.length,c⟩),(1,iV 1001)] rfl (aG (lA 2 33 (bv ⟨op,n,q,s,A,ps.length,c⟩) a (fun B w2 h3 a=>lL a ac (ai (aa a [.v (qP B 8),.o (qS A ps.length c) 0 8 1,.v (nV ps.length)] ?_)))));cases l:((ps.length:Int) == (0:Int))
 .
  have F:=ao l;refine lB 11 l (ah (cK (aa a ac (ai (aa a [.v (qP B 8),.o (qS A ps.length c) 0 8 1,.v (nV ps.length),.c] (bE ?_))))));refine bG _ (CG.loop (fun J Γ O=>∃ (k:Nat)(sm:Nat)(y:Hp),J=ps.length-k/\Γ=[(1,iV 1001),(2,pB B),(15,qS A ps.length c),(16,nV ps.length),(17,nV k),(5,nV sm)]/\SS w h O y [⟨B,33,bv ⟨op,n,q,s,A,ps.length,c⟩⟩] [] [fun y=>Tms d y ps ks,fun y=>SlO 9 bv a7 y A ps]/\k<=ps.length/\sm=min (f0 (fun i=>ek d (ks.getD i cc)) k) 1001) _ ⟨0,0,h3,rfl,rfl,a.to _ _,JH _,rfl⟩ ?_);rintro _ _ w5 ⟨k,sm,h6,hm7,rfl,a,hk,z⟩;have hs1:(f0 (fun i=>ek d (ks.getD i cc)) (k+1))=(f0 (fun i=>ek d (ks.getD i cc)) k)+ek d (ks.getD k cc):=rfl;refine aG ?_;cases x:(decide ((k:Int)<(ps.length:Int)))
  .
   have D:=oF x;refine lB 18 x (ai (da (CG.exit ?_)))
   show CG _ _ _ _ _ _ _ _
   refine cQ (aa a [.v (pB B),.o (iV op) 0 0 1] (bE (aG ?_)));cases u:((op:Int) == (11:Int))
   .
    have C:=ao u;refine lB 36 u (lL a ac (ah (aG ?_)));cases I:((op:Int) == (8:Int))
    .
     have zc:=ao I;refine lB 40 I (lL a ac (ah (cK (aa a aF (lV 48 (iV (min (sm:Int) (1001:Int))) ?_ (hr:=aN (n:=(if (1001:Int)<(sm:Int) then (1001:Int) else (sm:Int))) kR (by simp only[eJ])))))));refine lL a ac (lN (kX ?_));have j:k=ks.length:=by omega
     have b:=oV (d:=d) (op:=op) (n:=n) (q:=q) (s:=s) (ks:=ks) oM;have e:=lE (s:=(f0 (fun i=>ek d (ks.getD i cc)) k)) (iY op n);rw[<-j] at b
     rw[<-b,<-z] at e
     exact a.ret [] (iV (min (sm:Int) (1001:Int))) (congrArg (Value.int .i64) (by rw[<-e];unfold oR;first|(rw[if_pos oM];(repeat' split)<;>omega)|(rw[if_neg oM,if_pos oM,zz];(repeat' split)<;>omega)|(rw[if_neg oM,if_neg oM];(repeat' split)<;>omega)))
    have zc:=eq_of_beq I;refine lB 40 I (lL a ac (aj (kQ (lL a [.c,.v (qP B 1),.o (iV n) 0 1 1] (aq 44 a (E5 n oM oM _ _ a.g) (fun _ _ a=>?_))))));have Q:cX n<=12/\1<=cX n:=by unfold cX;split<;>omega
    have hmb:sm*cX n<=1001*12:=Jq oM oM;refine lI 45 ((sm:Nat)*(cX n:Nat)) (lL a ac (aE (lL a aF (lV 48 (iV (min ((sm:Nat)*(cX n:Nat):Int) (1001:Int))) ?_ (hr:=aN (n:=(if (1001:Int)<((sm:Nat)*(cX n:Nat):Int) then (1001:Int) else ((sm:Nat)*(cX n:Nat):Int))) kR (by simp only[eJ]))))));refine lL a ac (lN (kX ?_));have j:k=ks.length:=by omega
    have b:=oV (d:=d) (op:=op) (n:=n) (q:=q) (s:=s) (ks:=ks) oM;have e:=lE (s:=(f0 (fun i=>ek d (ks.getD i cc)) k)) (iY op n);rw[<-j] at b
    rw[<-b,<-z] at e
    exact a.ret [] (iV (min ((sm:Nat)*(cX n:Nat):Int) (1001:Int))) (congrArg (Value.int .i64) (by rw[<-e];unfold oR;first|(rw[if_pos oM];(repeat' split)<;>omega)|(rw[if_neg oM,if_pos oM,zz];(repeat' split)<;>omega)|(rw[if_neg oM,if_neg oM];(repeat' split)<;>omega)))
   have C:=eq_of_beq u;refine lB 36 u (lL a ac (aj (kQ (lL a ac (lI 38 ((sm:Nat)*2) ?_)))));refine lL a ac (aE (lL a aF (lV 48 (iV (min ((sm:Nat)*2:Int) (1001:Int))) ?_ (hr:=aN (n:=(if (1001:Int)<((sm:Nat)*2:Int) then (1001:Int) else ((sm:Nat)*2:Int))) kR (by simp only[eJ])))));refine lL a ac (lN (kX ?_));have j:k=ks.length:=by omega
   have b:=oV (d:=d) (op:=op) (n:=n) (q:=q) (s:=s) (ks:=ks) oM;have e:=lE (s:=(f0 (fun i=>ek d (ks.getD i cc)) k)) (iY op n);rw[<-j] at b
   rw[<-b,<-z] at e
   exact a.ret [] (iV (min ((sm:Nat)*2:Int) (1001:Int))) (congrArg (Value.int .i64) (by rw[<-e];unfold oR;first|(rw[if_pos oM];(repeat' split)<;>omega)|(rw[if_neg oM,if_pos oM,zz];(repeat' split)<;>omega)|(rw[if_neg oM,if_neg oM];(repeat' split)<;>omega)))
  have D:=oT x;refine lB 18 x (ai (ci (cK (cQ (kZ (aG (lX 19 A ps.length c 9 (k:Nat) k ((a.f.2.1).ok oM) ?_)))))));refine lH 20 (a8 (ps.getD k a7)) a ((a.f.2.1).el k oM) (lA 7 33 a2 a (fun b13 _ _ a=>lP 0 0 (bv (ps.getD k a7)) a (fun _ a=>aE (lL a [.c,.o (a8 (ps.getD k a7)) 0 0 9,.c] (aq 24 a (S (ps.getD k a7) (ks.getD k cc) _ _ a.g ((a.f.1).at_ k oM) (hW k oM)) (fun _ ze a=>lI 25 ((sm:Nat)+((min (ek d (ks.getD k cc)) 1001:Nat):Int)) (lL a ac (lV 27 (iV ((min (f0 (fun i=>ek d (ks.getD i cc)) (k+1)) 1001:Nat):Int)) ?_ (hr:=aN (n:=if (1001:Int)<((sm:Nat)+((min (ek d (ks.getD k cc)) 1001:Nat):Int)) then (1001:Int) else ((sm:Nat)+((min (ek d (ks.getD k cc)) 1001:Nat):Int))) kR (by split<;>omega))))))))));refine lL a ac (aE (lL a aF ?_));cases H:((((min (f0 (fun i=>ek d (ks.getD i cc)) (k+1)) 1001:Nat):Int):Int) == (1001:Int))
  .
   have zd:=ao H;refine lB 30 H (ah (cK (kQ (bg 32 ((k:Nat)+1) (k+1) ?_))));refine lL a ac (lD ?_);intro a_ U;replace a:=a.drop 1 0;refine ⟨_,_,?_,⟨k+1,(min (f0 (fun i=>ek d (ks.getD i cc)) (k+1)) 1001),ze,rfl,rfl,a.to _ _,oM,rfl⟩,U.to _ kR⟩
   omega
  have zd:=eq_of_beq H;exact lB 30 H (aj (aa a aF (af a [] (iV 1001) (congrArg (Value.int .i64) (by have V:=tE (fun i=>ek d (ks.getD i cc)) (show k+1<=ks.length by omega);have h2_:=E2 (d:=d) (op:=op) (n:=n) (q:=q) (s:=s) (ks:=ks) oM;omega)))))
 have F:=eq_of_beq l;exact lB 11 l (aj (aa a [.c,.v (iV 1),.c] (af a [] (iV 1) (congrArg (Value.int .i64) (by rw[CO oM];first|rfl|omega)))))
theorem lk (ok:ByteArray->Prop):∀ (d:Nat) (p:PTm) (t:Tm) (w:World) (h:Hp),G w h->TmH d h p t->WfT ok d t ->  Calls Tryz.prog 34 #[a8 p,iV 1001] w (Ret w h (fun v _=>v=iV ((min (ek d t) 1001:Nat):Int)))
  | 0,_,_,_,_,_,x,_=>x.elim
  | d + 1,p,t,w,h,g,x,wf=>by
    obtain ⟨op,n,q,s,A,c,ps,ks,rfl,rfl,e,i,a⟩:=x.open;obtain ⟨w1,w2,w3,o,l,j,u,f,k⟩:=wf
    have b:ps.length<=2:=by
      have y:fH op=ks.length:=w1;have:=aT op;have:=a.len
      omega
    exact vN ok d (fun p t w h=>lk ok d p t w h) op n q s A c ps ks e b w1 w2 w3 o l j u f k w h g i a
def tr (nm:Int->ByteArray)(l:List Stp)(i:Nat):Tm:=FJ nm l (l.length+1) i
structure DpS (dp:Nat->Nat) (l:List Stp):Prop where
  one:∀ k,k<l.length->1<=dp k
  le:∀ k,k<l.length->dp k<=20
  a:∀ k,k<l.length->0<fH (l.getD k fq).op->dp (l.getD k fq).a.toNat<dp k
  b:∀ k,k<l.length->1<fH (l.getD k fq).op->dp (l.getD k fq).b.toNat<dp k
theorem Hj  (isb:ByteArray->Bool)(sm:ByteArray->Prop)(i:∀ s,sm s->∀ (w:World) (h:Hp),G w h->Calls Tryz.prog 8 #[.string s] w (Ret w h (fun v _=>∃ b,v=.bool b/\b=isb s)))(d:Nat)(p:PTm)(t:Tm)(H:d<=24)(w:World)(h:Hp)(g:G w h)(l:TmH d h p t)(k:SmT sm d t):CR 15 #[a8 p] w h (fun v _=>∃ e:Int,v=iV e/\((WfT (fun s=>isb s=true) d t/\e=(if 1000<ek d t then 18 else 0))\/(¬WfT (fun s=>isb s=true) d t/\e=2))):=by
 have a:=((sS g).add (K:=fun j=>TmH d j p t) l);refine go Tryz.func15 [(0,a8 p)] rfl (aG (lA 1 33 (bv p) a (fun z w2 F a=>lL a ac (ai (aa a [.o (a8 p) 0 0 9] (aq 4 a (sI sm d p t 24 _ _ a.g a.f.1 k oM oM) (fun I D a=>ah (cK (cQ (aa a [.o (a8 p) 0 0 9] (lC 6 a (mb isb sm i d p t _ _ a.g a.f.1 k) ?_)))))))))));rintro _ B y a ⟨bf,rfl,hbf⟩;cases x:(bf)
 .
  exact lL a [.v qT] (aj (aa a ac (af a [] (iV 2) (⟨_,rfl,.inr ⟨fun j=>Kp ((hbf.2 j).symm.trans aM),rfl⟩⟩))))
 refine lL a [.v qF] (ah (cK (cQ (aa a [.o (a8 p) 0 0 9] (aq 9 a (lk (fun s=>isb s=true) d p t _ _ a.g a.f.1 (hbf.1 aM)) (fun C _ a=>?_))))));cases c:(decide ((1000:Int)<(((min (ek d t) 1001:Nat):Int):Int)))
 .
  have u:=oF c;exact lB 10 c (ah (cK (aa a ac (af a [] (iV 0) (⟨_,rfl,.inl ⟨hbf.1 aM,by split<;>omega⟩⟩)))))
 have u:=oT c;exact lB 10 c (aj (aa a ac (af a [] (iV 18) (⟨_,rfl,.inl ⟨hbf.1 aM,by split<;>omega⟩⟩))))
theorem wL (isb:ByteArray->Bool)(sm:ByteArray->Prop)(c:∀ s,sm s->∀ (w:World) (h:Hp),G w h->Calls Tryz.prog 8 #[.string s] w (Ret w h (fun v _=>∃ b,v=.bool b/\b=isb s)))(f:∀ s,isb s=true->sm s)(h0:sm ⟨#[]⟩)(d:Nat)(p:PTm)(t:Tm)(x:d<=24)(w:World)(h:Hp)(g:G w h)(l:TmH d h p t)(i:WfT (fun s=>isb s=true) d t):Calls Tryz.prog 15 #[a8 p] w (Ret w h (fun v _=>v=iV (if 1000<ek d t then 18 else 0))) :=
 (Hj isb sm c d p t x w h g l (i.sm f h0)).mono fun e w' ⟨v,o,j,u,y,k,a⟩=>⟨v,o,j,u,by
  rcases a with ⟨_,a⟩|⟨a,_⟩
  ·rw[k,a]
  ·exact absurd i a⟩
theorem FR (op:Int)(w:World)(h:Hp)(g:G w h):CV 56 #[iV op] w h (iV (fH op)):=by
 have a:=sS g;refine go Tryz.func56 [(0,iV op)] rfl (aa a ac (ai (aa a ac (bE (cQ (aG ?_))))));cases k:((op:Int) == (1:Int))
 .
  have u:=ao k;refine lB 5 k (lL a ac (ah (kQ ?_)));cases b:((op:Int) == (2:Int))
  .
   have x:=ao b;refine lB 6 b (lL a ac (ah (cQ (aG ?_))));cases i:((op:Int) == (7:Int))
   .
    have y:=ao i;refine lB 8 i (lL a ac (ah (aG ?_)));cases d:((op:Int) == (8:Int))
    .
     have C:=ao d;refine lB 9 d (lL a ac (ah (aG ?_)));cases f:((op:Int) == (9:Int))
     .
      have o:=ao f;refine lB 10 f (lL a ac (ah (aG ?_)));cases e:((op:Int) == (10:Int))
      .
       have D:=ao e;refine lB 11 e (lL a ac (ah (kQ ?_)));cases c:((op:Int) == (11:Int))
       .
        have B:=ao c;refine lB 12 c (lL a ac (ah (cQ (aG ?_))));cases l:((op:Int) == (3:Int))
        .
         have z:=ao l;refine lB 14 l (lL a ac (ah (aG ?_)));cases j:((op:Int) == (4:Int))
         .
          have p:=ao j;refine lB 15 j (lL a ac (ah (aG ?_)));cases I:((op:Int) == (5:Int))
          .
           have M:=ao I;refine lB 16 I (lL a ac (ah (aG ?_)));cases F:((op:Int) == (6:Int))
           .
            have O:=ao F;refine lB 17 F (lL a ac (ah (aG ?_)));cases H:((op:Int) == (12:Int))
            .
             have K:=ao H;refine lB 18 H (lL a ac (ah (kQ ?_)));cases J:((op:Int) == (13:Int))
             .
              have L:=ao J;exact lB 19 J (lL a ac (ah (cK (aa a ac (af a [] (iV (-1)) (congrArg (Value.int .i64) (by have:=aT op;omega)))))))
             have L:=eq_of_beq J;exact lB 19 J (lL a ac (aj (aa a ac (af a [] (iV 2) (congrArg (Value.int .i64) (by have:=aT op;omega))))))
            have K:=eq_of_beq H;exact lB 18 H (lL a ac (aj (cK (ci (aa a ac (af a [] (iV 2) (congrArg (Value.int .i64) (by have:=aT op;omega))))))))
           have O:=eq_of_beq F;exact lB 17 F (lL a ac (aj (cK (ci (aa a ac (af a [] (iV 2) (congrArg (Value.int .i64) (by have:=aT op;omega))))))))
          have M:=eq_of_beq I;exact lB 16 I (lL a ac (aj (cK (ci (aa a ac (af a [] (iV 2) (congrArg (Value.int .i64) (by have:=aT op;omega))))))))
         have p:=eq_of_beq j;exact lB 15 j (lL a ac (aj (cK (ci (aa a ac (af a [] (iV 2) (congrArg (Value.int .i64) (by have:=aT op;omega))))))))
        have z:=eq_of_beq l;exact lB 14 l (lL a ac (aj (cK (ci (aa a ac (af a [] (iV 2) (congrArg (Value.int .i64) (by have:=aT op;omega))))))))
       have B:=eq_of_beq c;exact lB 12 c (lL a ac (aj (aa a ac (af a [] (iV 1) (congrArg (Value.int .i64) (by have:=aT op;omega))))))
      have D:=eq_of_beq e;exact lB 11 e (lL a ac (aj (cK (ci (aa a ac (af a [] (iV 1) (congrArg (Value.int .i64) (by have:=aT op;omega))))))))
     have o:=eq_of_beq f;exact lB 10 f (lL a ac (aj (cK (ci (aa a ac (af a [] (iV 1) (congrArg (Value.int .i64) (by have:=aT op;omega))))))))
    have C:=eq_of_beq d;exact lB 9 d (lL a ac (aj (cK (ci (aa a ac (af a [] (iV 1) (congrArg (Value.int .i64) (by have:=aT op;omega))))))))
   have y:=eq_of_beq i;exact lB 8 i (lL a ac (aj (cK (ci (aa a ac (af a [] (iV 1) (congrArg (Value.int .i64) (by have:=aT op;omega))))))))
  have x:=eq_of_beq b;exact lB 6 b (lL a ac (aj (aa a ac (af a [] (iV 0) (congrArg (Value.int .i64) (by have:=aT op;omega))))))
 have u:=eq_of_beq k;exact lB 5 k (lL a ac (aj (cK (ci (aa a ac (af a [] (iV 0) (congrArg (Value.int .i64) (by have:=aT op;omega))))))))
theorem B6 (z:Int)(A:Z9)(c:Nat)(w:World)(h:Hp)(g:G w h)(k:S3 A (lim (ab z)) h):CV 94 #[.agg #[.bool (au z),.slice A ((lim (ab z)).length) c]] w h (iV z.sign):=by
 have a:=((sS g).aS k);have i:0<(lim (ab z)).length↔0<ab z:=bI
 unfold ab at i
 refine go Tryz.func94 [(0,.agg #[.bool (au z),qS A ((lim (ab z)).length) c])] rfl (aG (lA 1 42 ([.bool (au z),qS A ((lim (ab z)).length) c]) a (fun j w2 l a=>lL a ac (ai (kZ (aa a [.v (qP j 1),.o (qS A ((lim (ab z)).length) c) 0 1 1,.v (nV ((lim (ab z)).length))] ?_))))));cases d:((((lim (ab z)).length:Nat):Int) == (0:Int))
 .
  have f:=ao d;refine lB 7 d (lL a ac (ah (aa a [.v (pB j),.o (.bool (au z)) 0 0 1,.c] (lN ?_))));cases b:(au z)
  .
   try rw[b] at a
   try rw[b]
   have e:=bK b;exact da (cK (aa a ac (af a [] (iV 1) (congrArg (Value.int .i64) (by first|(rw[show z=0 by (unfold ab at *;omega)];rfl)|exact (J6 oM).symm|exact (J7 (by unfold ab at *;omega)).symm)))))
  try rw[b] at a
  try rw[b]
  have e:=bT b;exact ci (aa a ac (af a [] (iV (-1)) (congrArg (Value.int .i64) (by first|(rw[show z=0 by (unfold ab at *;omega)];rfl)|exact (J6 oM).symm|exact (J7 (by unfold ab at *;omega)).symm))))
 have f:=eq_of_beq d;exact lB 7 d (lL a ac (aj (aa a ac (af a [] (iV 0) (congrArg (Value.int .i64) (by first|(rw[show z=0 by (unfold ab at *;omega)];rfl)|exact (J6 oM).symm|exact (J7 (by unfold ab at *;omega)).symm))))))
theorem HM (z:Int)(A:Z9)(c n:Nat)(D:Z9)(d:Nat)(j:(lim (ab z)).length<=c)(p:(lim n).length<=d)(w:World)(h:Hp)(g:G w h)(e:S3 A (lim (ab z)) h)(i:S3 D (lim n) h):CV 71 #[.agg #[.bool (au z),.slice A ((lim (ab z)).length) c,.slice D ((lim n).length) d]] w h (iV z.sign):=by
 have a:=(((sS g).aS e).aS i);exact go Tryz.func71 [(0,.agg #[.bool (au z),qS A ((lim (ab z)).length) c,qS D ((lim n).length) d])] rfl (aG (lA 1 44 ([.bool (au z),qS A ((lim (ab z)).length) c,qS D ((lim n).length) d]) a (fun b w2 l a=>lL a ac (aE (lL a [.v (pB b),.o (.agg #[.bool (au z),qS A ((lim (ab z)).length) c]) 0 0 2] (aq 5 a (B6 z A c _ _ a.g a.f.2.1) (fun u k a=>lL a ac (af a [] (iV z.sign) rfl))))))))
theorem lU (z:Int)(A:Z9)(c n:Nat)(D:Z9)(d:Nat)(k:(lim (ab z)).length<=c)(B:(lim n).length<=d)(w:World)(h:Hp)(g:G w h)(p:S3 A (lim (ab z)) h)(x:S3 D (lim n) h):CV 46 #[.agg #[.bool (au z),.slice A ((lim (ab z)).length) c,.slice D ((lim n).length) d]] w h (.bool (decide (n=0\/z=0))):=by
 have a:=(((sS g).aS p).aS x);have y:0<(lim n).length↔0<n:=bI;refine go Tryz.func46 [(0,.agg #[.bool (au z),qS A ((lim (ab z)).length) c,qS D ((lim n).length) d])] rfl (aG (lA 1 44 ([.bool (au z),qS A ((lim (ab z)).length) c,qS D ((lim n).length) d]) a (fun l w2 H a=>lL a ac (aE (lL a [.v (qP l 2),.o (qS D ((lim n).length) d) 0 2 1,.v (nV ((lim n).length))] ?_)))));cases e:((((lim n).length:Nat):Int) == (0:Int))
 .
  have j:=ao e;refine lB 6 e (lL a [.c,.o (.agg #[.bool (au z),qS A ((lim (ab z)).length) c,qS D ((lim n).length) d]) 0 0 3] (aq 9 a (HM z A c n D d k B _ _ a.g a.f.2.1 a.f.1) (fun F C a=>?_)));have u:z.sign=0↔z=0:=Ko;cases b:((z.sign:Int) == (0:Int))
  .
   have i:=ao b;exact lB 10 b (lL a [.v qF,.c] (af a [] qF (congrArg Value.bool (decide_eq_false oM).symm)))
  have i:=eq_of_beq b;exact lB 10 b (lL a [.v qT,.c] (af a [] qT (congrArg Value.bool (decide_eq_true oM).symm)))
 have j:=eq_of_beq e;refine lB 6 e (lL a ac (lG 8 ?_));exact lG 9 (lG 10 (lL a [.v qT,.c] (af a [] qT (congrArg Value.bool (decide_eq_true oM).symm))))
def ew (op n sum:Int):Int:=if op=11 then 2*sum else if op=8/\n≠0 then sum*(if n<0 then 0-n else n) else sum
theorem Ib (b:Bool)(c:Z9)(i j:Nat)(e:Z9)(d f:Nat)(w:World)(h:Hp)(g:G w h):CV 135 #[.agg #[.bool b,.slice c i j,.slice e d f]] w h (aY ⟨1,0,b,c,i,j,e,d,f,⟨#[]⟩,none,0,0⟩):=by
 have a:=sS g;exact go Tryz.func135 [(0,.agg #[.bool b,qS c i j,qS e d f])] rfl (aG (lA 1 44 ([.bool b,qS c i j,qS e d f]) a (fun p w2 l a=>lA 2 47 (ax ⟨0,0,false,none,0,0,none,0,0,⟨#[]⟩,none,0,0⟩) a (fun k u x a=>aE (lL a [.o (.agg #[.bool b,qS c i j,qS e d f]) 1 0 3,.v (aY ⟨1,0,b,c,i,j,e,d,f,⟨#[]⟩,none,0,0⟩)] (lP 0 0 (ax ⟨1,0,b,c,i,j,e,d,f,⟨#[]⟩,none,0,0⟩) a (fun y a=>af a [(0,0,7)] (aY ⟨1,0,b,c,i,j,e,d,f,⟨#[]⟩,none,0,0⟩) rfl)))))))
theorem De (op:Int)(a rb:RTm)(w:World)(h:Hp)(g:G w h):CR 37 #[iV op,aY a,aY rb] w h (fun v h1=>∃ b,v=aY ⟨op,0,false,none,0,0,none,0,0,⟨#[]⟩,sB b,2,2⟩/\SlO 7 ax bZ h1 (sB b) [a,rb]):=by
 have e:=sS g;refine go Tryz.func37 [(0,iV op),(1,aY a),(2,aY rb)] rfl (aG (lA 4 47 (ax a) e (fun j w2 y e=>lA 5 47 (ax rb) e (fun p x u e=>lA 6 47 (ax ⟨0,0,false,none,0,0,none,0,0,⟨#[]⟩,none,0,0⟩) e (fun z k B e=>aE (lL e [.c,.o (aY a) 2 0 7,.o (aY rb) 1 0 7] (lR 10 47 2 ([iV a.op,iV a.n,.bool a.neg,qS a.zA a.zn a.zc,qS a.dA a.dn a.dc,.string a.s,qS a.A a.m a.c,iV rb.op,iV rb.n,.bool rb.neg,qS rb.zA rb.zn rb.zc,qS rb.dA rb.dn rb.dc,.string rb.s,qS rb.A rb.m rb.c]) e (fun i _ _ e=>?_))))))));replace e:=e.aS (SlO.of_flat (sz:=7) (f:=ax) (d:=bZ) (b:=i) (o:=0) (l:=([(⟨a.op,a.n,a.neg,a.zA,a.zn,a.zc,a.dA,a.dn,a.dc,a.s,a.A,a.m,a.c⟩:RTm),(⟨rb.op,rb.n,rb.neg,rb.zA,rb.zn,rb.zc,rb.dA,rb.dn,rb.dc,rb.s,rb.A,rb.m,rb.c⟩:RTm)]:List RTm)) (fun _=>rfl) e.f.1);exact lL e [.v (aY ⟨op,0,false,none,0,0,none,0,0,⟨#[]⟩,sB i,2,2⟩)] (lP 0 0 (ax ⟨op,0,false,none,0,0,none,0,0,⟨#[]⟩,sB i,2,2⟩) e (fun _ e=>af e [(0,0,7)] (aY ⟨op,0,false,none,0,0,none,0,0,⟨#[]⟩,sB i,2,2⟩) (⟨_,rfl,e.f.1⟩)))
structure RecOk (nm:Int->ByteArray) (inp:Int) (d:Nat) (l:List Stp) (l2:List Stp) (n:Nat) (t:Tm):Prop where
  lq:(∀ i,LQ 1 (l.getD i fq).q)->∀ i,LQ 1 (l2.getD i fq).q
  dps:∀ dp,DpS dp l->∃ dp',DpS dp' l2/\(∀ k,k<l.length->dp' k=dp k)/\dp' (l2.length-1)<=d
  pre:∃ m,l2=l++m
  len:l2.length=l.length+n
  pos:0<n
  fm:∀ k,k<l2.length->nq inp k (l2.getD k fq)
  tr:∀ f,l2.length<=f->FJ nm l2 f (l2.length-1)=t
structure AllOk (nm:Int->ByteArray) (inp:Int) (d:Nat) (ts:List Tm) (k:Nat) (l:List Stp) (os:List Int) (c:Nat):Prop where
  len:l.length=c
  fm:∀ k,k<l.length->nq inp k (l.getD k fq)
  lq:∀ i,LQ 1 (l.getD i fq).q
  dps:∃ dp,DpS dp l
  out:∀ j,j<k->0<=os.getD j 0/\os.getD j 0<(l.length:Nat)/\FJ nm l (l.length+1) (os.getD j 0).toNat=ts.getD j cc
def I1 (s:ByteArray):Prop:=s=⟨#[120]⟩\/s=⟨#[121]⟩\/s=⟨#[122]⟩
def IK:Nat->Tm->Prop
  | 0,_=>True
  | d+1,t=>-11<=t.n/\∀ i,i<t.ks.length->IK d (t.ks.getD i cc)
def IG:Nat->Tm->Prop
  | 0,_=>True
  | d+1,t=>(ab t.q.num<100/\t.q.den<100)/\∀ i,i<t.ks.length->IG d (t.ks.getD i cc)
def GrT (d:Nat)(t:Tm):Prop:=FY I1 d t/\3*ek d t<=3^d/\IK d t/\IG d t
theorem F7:ab (0:Rat).num<100/\(0:Rat).den<100:=by decide
theorem GrT.one {d:Nat}{op n:Int}{t:Tm}(x:GrT d t)(ha:fH op=1)(a:op≠8->n=0)(h1 : -3<=n)(b:n<=3):GrT (d+1) (.mk op n 0 ⟨#[]⟩ [t]):=by
 refine ⟨⟨ha,fun _=>rfl,FG kD,fun h=>?_,fun _=>rfl,a,by show (-12:Int)<=n;omega,by show n<=12;omega,fun i hi=>?_⟩,?_,⟨by show -11<=n;omega,fun i hi=>by
  have:i=0:=by have:i<1:=hi;omega
  subst this;exact x.2.2.1⟩,F7,fun i hi=>by
  have:i=0:=by have:i<1:=hi;omega
  subst this;exact x.2.2.2⟩
 ·have h:op=2:=h
  rw[h] at ha;exact absurd ha kD
 ·have:i=0:=by have:i<1:=hi;omega
  subst this;exact x.1
 ·show 3*((if op=11 then 2 else if op=8 then cX n else 1)*(0+ek d t))<=3^(d+1)
  have hf:(if op=11 then 2 else if op=8 then cX n else 1)<=3:=by
   unfold cX
   repeat' split
   all_goals omega
  have:=Jq hf x.2.1;rw[zy,Nat.zero_add,Nat.mul_left_comm,zz (3^d)];exact this
theorem GrT.two {d:Nat}{op:Int}{t u:Tm}(x:GrT d t)(y:GrT d u)(ha:fH op=2):GrT (d+1) (.mk op 0 0 ⟨#[]⟩ [t,u]):=by
 have b:op≠8:=fun h=>by rw[h] at ha;exact absurd ha kD
 have a:op≠11:=fun h=>by rw[h] at ha;exact absurd ha kD
 refine ⟨⟨ha,fun _=>rfl,FG kD,fun h=>?_,fun _=>rfl,fun _=>rfl,by show (-12:Int)<=0;decide,by show (0:Int)<=12;decide,fun i hi=>?_⟩,?_,⟨by show (-11:Int)<=0;decide,fun i hi=>by
  have:i=0\/i=1:=by have:i<2:=hi;omega
  rcases this with rfl|rfl
  ·exact x.2.2.1
  ·exact y.2.2.1⟩,F7,fun i hi=>by
  have:i=0\/i=1:=by have:i<2:=hi;omega
  rcases this with rfl|rfl
  ·exact x.2.2.2
  ·exact y.2.2.2⟩
 ·have h:op=2:=h
  rw[h] at ha;exact absurd ha kD
 ·have:i=0\/i=1:=by have:i<2:=hi;omega
  rcases this with rfl|rfl
  ·exact x.1
  ·exact y.1
 ·show 3*((if op=11 then 2 else if op=8 then cX 0 else 1)*(0+ek d t+ek d u))<=3^(d+1)
  rw[if_neg a,if_neg b,zy];have:=x.2.1;have:=y.2.1
  omega
section
variable {d:Nat}{h:Hp}
theorem m7:RZ h (false,.slice none 0 0,.slice none 0 0) 0:=⟨false,⟨none,0,none,0,rfl,eb _,eb _,SlO.nil,SlO.nil⟩,fun _=>rfl⟩
theorem Ep {b:Bool}{a e:Z9}{j k c f:Nat}{q:Rat}(hz:RZ h (b,.slice a j k,.slice e c f) q):RmH (d+1) h ⟨1,0,b,a,j,k,e,c,f,⟨#[]⟩,none,0,0⟩ (.mk 1 0 q ⟨#[]⟩ []) :=
 ⟨rfl,rfl,hz,rfl,rfl,eb _,[],rfl,SlO.nil,fun i hi=>absurd hi (Kk i)⟩
theorem Cu {s:ByteArray}:RmH (d+1) h ⟨2,0,false,none,0,0,none,0,0,s,none,0,0⟩ (.mk 2 0 0 s []) :=
 ⟨rfl,rfl,m7,rfl,rfl,eb _,[],rfl,SlO.nil,fun i hi=>absurd hi (Kk i)⟩
theorem qr {op n:Int}{p:RTm}{t:Tm}{b:Nat}(x:RmH d h p t)(a:SlO 7 ax bZ h (some ⟨b,0,none⟩) [p]):RmH (d+1) h ⟨op,n,false,none,0,0,none,0,0,⟨#[]⟩,some ⟨b,0,none⟩,1,1⟩ (.mk op n 0 ⟨#[]⟩ [t]) :=
 ⟨rfl,rfl,m7,rfl,rfl,eb _,[p],rfl,a,fun i hi=>by
  have:i=0:=by have:i<1:=hi;omega
  subst this;exact x⟩
theorem Em {op:Int}{p q:RTm}{t u:Tm}{b:Nat}(x:RmH d h p t)(y:RmH d h q u)(a:SlO 7 ax bZ h (some ⟨b,0,none⟩) [p,q]):RmH (d+1) h ⟨op,0,false,none,0,0,none,0,0,⟨#[]⟩,some ⟨b,0,none⟩,2,2⟩ (.mk op 0 0 ⟨#[]⟩ [t,u]) :=
 ⟨rfl,rfl,m7,rfl,rfl,eb _,[p,q],rfl,a,fun i hi=>by
  have:i=0\/i=1:=by have:i<2:=hi;omega
  rcases this with rfl|rfl
  ·exact x
  ·exact y⟩
end
def fN (s:ByteArray):Prop:=s.size<=1000
theorem EB:fN ⟨#[]⟩:=by unfold fN;decide
def Fv (Φ:Value->World->Hp->Prop):Ending->World->Prop:=fun e w'=>∃ v h',e=.returned v/\Φ v w' h'
section perm
variable {w0:World}{h0:Hp}{w:World}{h:Hp}{B B':List Bx}{R R':List Rw}{F:List (Hp->Prop)}
theorem SS.permBR (s:SS w0 h0 w h B R F)(pB:B.Perm B')(c:R.Perm R'):SS w0 h0 w h B' R' F :=
 ⟨s.g0,⟨s.st.up,fun x a=>s.st.own x (pB.mem_iff.2 a),fun x a=>s.st.jk x (pB.mem_iff.2 a),fun x a=>s.st.lo x (pB.mem_iff.2 a),((pB.map (·.b)).nodup_iff).1 s.st.nd⟩,
  fun r hr=>⟨(s.ro r (c.mem_iff.2 hr)).own,(s.ro r (c.mem_iff.2 hr)).jk,fun b e d=>(s.ro r (c.mem_iff.2 hr)).ap b e ((pB.map (·.b)).mem_iff.2 d)⟩,(c.pairwise_iff (fun h=>h.symm)).1 s.ap,s.mo,s.f⟩
end perm
section ret
variable {P:Program}{n:Nat}{Γ:ck}{w:World}{h:Hp}{w0:World}{h0:Hp}{B:List Bx}{Rs:List Rw}{F:List (Hp->Prop)}
theorem SS.retS {c:Func}{Φ:Value->World->Hp->Prop}(s:SS w0 h0 w h B Rs F)(ps:List (Nat × Nat × Nat))(v:Value)(d:Φ v w h)(b:(kW c Γ && bR B ps)=true:=by kernel_rfl)(f:bP P (mm c Γ) (cg B ps)=some (v,bO B ps):=by kernel_rfl):∀ a,Kn n a Γ->lf P c (Fv Φ) a w:=by
 intro a e;rw[hI] at b
 refine ⟨e.df.trans (kJ b.1),v,?_,v,h,rfl,d⟩;rw[fD e b.1];exact bH _ _ _ _ f (bQ s.st.own ps b.2)
end ret
section call
variable {P:Program}{n:Nat}{N R:Po}{X:Nat->Po}{ops:Array Oper}{k:Nat}{Γ:ck}{w:World}
theorem Hw (t:Nat){f:FuncId}{args:Array Value}{Φ:Value->World->Hp->Prop}(c:Calls P f args w (Fv Φ))(H:∀ v w' b,Φ v w' b->LG P n N R X ops (k+1) ((t,v)::Γ) w')(d:cL ops Γ k t n=true:=by kernel_rfl)(hr:(execOp (ev Γ) (av ops k)).run P w=.ok (.enter f args) w:=by kernel_rfl):LG P n N R X ops k Γ w :=
 LG.call t f args (bS d).1 (bS d).2 hr (c.mono fun e w' ⟨v,b,h,a⟩=>⟨v,h,H v w' b a⟩)
end call
theorem o5 (op:Int)(a:RTm)(w:World)(h:Hp)(g:G w h):CR 83 #[iV op,aY a] w h (fun v h1=>∃ b,v=aY ⟨op,0,false,none,0,0,none,0,0,⟨#[]⟩,sB b,1,1⟩/\SlO 7 ax bZ h1 (sB b) [a]):=by
 have e:=sS g;refine go Tryz.func83 [(0,iV op),(1,aY a)] rfl (aG (lA 3 47 (ax a) e (fun p w2 k e=>lA 4 47 (ax ⟨0,0,false,none,0,0,none,0,0,⟨#[]⟩,none,0,0⟩) e (fun j u x e=>aE (lL e [.c,.o (aY a) 1 0 7] (lR 7 47 1 ([iV a.op,iV a.n,.bool a.neg,qS a.zA a.zn a.zc,qS a.dA a.dn a.dc,.string a.s,qS a.A a.m a.c]) e (fun i y z e=>?_)))))));replace e:=e.aS (SlO.of_flat (sz:=7) (f:=ax) (d:=bZ) (b:=i) (o:=0) (l:=([(⟨a.op,a.n,a.neg,a.zA,a.zn,a.zc,a.dA,a.dn,a.dc,a.s,a.A,a.m,a.c⟩:RTm)]:List RTm)) (fun _=>rfl) e.f.1);exact lL e [.v (aY ⟨op,0,false,none,0,0,none,0,0,⟨#[]⟩,sB i,1,1⟩)] (lP 0 0 (ax ⟨op,0,false,none,0,0,none,0,0,⟨#[]⟩,sB i,1,1⟩) e (fun _ e=>af e [(0,0,7)] (aY ⟨op,0,false,none,0,0,none,0,0,⟨#[]⟩,sB i,1,1⟩) (⟨_,rfl,e.f.1⟩)))
theorem Gx (a:RTm)(i:Int)(w:World)(h:Hp)(g:G w h):CR 110 #[aY a,iV i] w h (fun v h1=>∃ b,v=aY ⟨8,i,false,none,0,0,none,0,0,⟨#[]⟩,sB b,1,1⟩/\SlO 7 ax bZ h1 (sB b) [a]):=by
 have e:=sS g;refine go Tryz.func110 [(0,aY a),(1,iV i)] rfl (aG (lA 2 47 (ax a) e (fun u w2 p e=>lA 4 47 (ax ⟨0,0,false,none,0,0,none,0,0,⟨#[]⟩,none,0,0⟩) e (fun k x y e=>aE (lL e [.c,.o (aY a) 1 0 7] (lR 7 47 1 ([iV a.op,iV a.n,.bool a.neg,qS a.zA a.zn a.zc,qS a.dA a.dn a.dc,.string a.s,qS a.A a.m a.c]) e (fun j z B e=>?_)))))));replace e:=e.aS (SlO.of_flat (sz:=7) (f:=ax) (d:=bZ) (b:=j) (o:=0) (l:=([(⟨a.op,a.n,a.neg,a.zA,a.zn,a.zc,a.dA,a.dn,a.dc,a.s,a.A,a.m,a.c⟩:RTm)]:List RTm)) (fun _=>rfl) e.f.1);exact lL e [.v (aY ⟨8,i,false,none,0,0,none,0,0,⟨#[]⟩,sB j,1,1⟩)] (lP 0 0 (ax ⟨8,i,false,none,0,0,none,0,0,⟨#[]⟩,sB j,1,1⟩) e (fun _ e=>af e [(0,0,7)] (aY ⟨8,i,false,none,0,0,none,0,0,⟨#[]⟩,sB j,1,1⟩) (⟨_,rfl,e.f.1⟩)))
section
variable {d:Nat}
theorem HG (b:Bool)(f:Z9)(k c:Nat)(a:Z9)(i j:Nat){q:Rat}(w:World)(h:Hp)(g:G w h)(hz:RZ h (b,.slice f k c,.slice a i j) q):CR 135 #[.agg #[.bool b,.slice f k c,.slice a i j]] w h (fun v h1=>∃ r,v=aY r/\RmH (d+1) h1 r (.mk 1 0 q ⟨#[]⟩ [])) :=
 (Ib b f k c a i j w h g).mono fun e w' ⟨v,o,l,u,p⟩=>⟨v,o,l,u,_,p,Ep (hz.gw u.gr.gw)⟩
theorem FX (op:Int)(a rb:RTm)(t u:Tm)(w:World)(h:Hp)(g:G w h)(x:RmH d h a t)(y:RmH d h rb u):CR 37 #[iV op,aY a,aY rb] w h (fun v h1=>∃ r,v=aY r/\RmH (d+1) h1 r (.mk op 0 0 ⟨#[]⟩ [t,u])) :=
 (De op a rb w h g).mono fun e w' ⟨v,i,c,up,b,j,f⟩=>⟨v,i,c,up,_,j,Em (x.gw up.gr.gw) (y.gw up.gr.gw) f⟩
theorem F0 (op:Int)(a:RTm)(t:Tm)(w:World)(h:Hp)(g:G w h)(x:RmH d h a t):CR 83 #[iV op,aY a] w h (fun v h1=>∃ r,v=aY r/\RmH (d+1) h1 r (.mk op 0 0 ⟨#[]⟩ [t])) :=
 (o5 op a w h g).mono fun e w' ⟨v,j,c,up,b,i,f⟩=>⟨v,j,c,up,_,i,qr (x.gw up.gr.gw) f⟩
theorem GM (c:RTm)(t:Tm)(a:Int)(w:World)(h:Hp)(g:G w h)(x:RmH d h c t):CR 110 #[aY c,iV a] w h (fun v h1=>∃ r,v=aY r/\RmH (d+1) h1 r (.mk 8 a 0 ⟨#[]⟩ [t])) :=
 (Gx c a w h g).mono fun e w' ⟨v,k,f,up,b,j,i⟩=>⟨v,k,f,up,_,j,qr (x.gw up.gr.gw) i⟩
end
def RtH (h:Hp)(r:RTm)(t:Tm):Prop:=∃ d,RmH d h r t
theorem RtH.gw {h a:Hp}{r:RTm}{t:Tm}(x:RtH h r t)(u:Gw h a):RtH a r t:=by
 obtain ⟨d,x⟩:=x;exact ⟨d,x.gw u⟩
theorem tj (op:Int)(a rb:RTm)(t u:Tm)(w:World)(h:Hp)(g:G w h)(x:RtH h a t)(y:RtH h rb u):CR 37 #[iV op,aY a,aY rb] w h (fun v h1=>∃ r,v=aY r/\RtH h1 r (bz op t u)):=by
 obtain ⟨d,x⟩:=x;obtain ⟨e,y⟩:=y;exact (FX (d:=max d e) op a rb t u w h g (x.mono oM) (y.mono oM)).mono fun e w' ⟨v,f,b,up,r,i,c⟩=>⟨v,f,b,up,r,i,_,c⟩
theorem Hr (op:Int)(a:RTm)(t:Tm)(w:World)(h:Hp)(g:G w h)(x:RtH h a t):CR 83 #[iV op,aY a] w h (fun v h1=>∃ r,v=aY r/\RtH h1 r (fQ op t)):=by
 obtain ⟨d,x⟩:=x;exact (F0 (d:=d) op a t w h g x).mono fun e w' ⟨v,i,b,up,r,f,c⟩=>⟨v,i,b,up,r,f,_,c⟩
theorem C0 (b:RTm)(t:Tm)(a:Int)(w:World)(h:Hp)(g:G w h)(x:RtH h b t):CR 110 #[aY b,iV a] w h (fun v h1=>∃ r,v=aY r/\RtH h1 r (.mk 8 a 0 ⟨#[]⟩ [t])):=by
 obtain ⟨d,x⟩:=x;exact (GM (d:=d) b t a w h g x).mono fun e w' ⟨v,j,c,up,r,i,f⟩=>⟨v,j,c,up,r,i,_,f⟩
theorem sv (op:Int)(a rb:RTm)(w:World)(h:Hp)(g:G w h):CR 37 #[iV op,aY a,aY rb] w h (fun v _=>∃ r,v=aY r) :=
 (De op a rb w h g).mono fun e w' ⟨v,f,c,up,b,d,_⟩=>⟨v,f,c,up,_,d⟩
theorem Hf (op:Int)(a:RTm)(w:World)(h:Hp)(g:G w h):CR 83 #[iV op,aY a] w h (fun v h1=>∃ r,v=aY r) :=
 (o5 op a w h g).mono fun e w' ⟨v,f,c,up,b,d,_⟩=>⟨v,f,c,up,_,d⟩
def DD (rb:Nat)(s:ByteArray)(r:PR)(v:Value)(w':World)(h':Hp):Prop:=match r with
  | .ok t b=>∃ x:RTm,v=aY x/\b<=s.size/\Own w' rb 67 [.string s,.int .i64 (b:Nat),.int .i64 (-1)]/\RtH h' x t
  | .err b=>∃ x:RTm,v=aY x/\Own w' rb 67 [.string s,.int .i64 (s.size:Nat),.int .i64 (b:Nat)]
def RC (nf bf:ByteArray->Option Rat)(f:FuncId)(n:Nat)(k:PKd):Prop:=∀ (rb:Nat) (s:ByteArray),s.size<=1000000->∀ (a:Nat),a<=s.size->∀ (r:PR),bn nf bf s n k a=some r->∀ (w:World) (h:Hp),G w h->Own w rb 67 [.string s,nV a,iV (-1)]->h[rb]?=some junk->Tab h->Calls Tryz.prog f #[pB rb] w (bW rb w h (DD rb s r))
def Ce (f:FuncId):Prop:=∀ (rb:Nat) (s:ByteArray),s.size<=1000000->∀ (b0:Nat) (w:World) (h:Hp),G w h->Own w rb 67 [.string s,nV s.size,nV b0]->h[rb]?=some junk->Tab h->Calls Tryz.prog f #[pB rb] w (bW rb w h fun v w' _=>∃ x:RTm,v=aY x/\Own w' rb 67 [.string s,nV s.size,nV b0])
theorem cJ {x:Option PR}{f:Tm->Nat->Option PR}{r:PR}(h:fT x f=some r):(∃ b,x=some (.err b)/\r=.err b)\/∃ t a,x=some (.ok t a)/\f t a=some r:=by
 match x,h with
 | some (.ok t a),h=>exact .inr ⟨t,a,rfl,h⟩
 | some (.err b),h=>injection h with h;exact .inl ⟨b,rfl,h.symm⟩
theorem mn  (rb:Nat)(s:ByteArray)(hsz:s.size<=1000000)(a:Nat)(ha:a<=s.size)(w:World)(h:Hp)(g:G w h)(ho:Own w rb 67 [.string s,nV a,iV (-1)])(Z:h[rb]?=some junk)(tb:Tab h):Calls Tryz.prog 17 #[pB rb] w (bW rb w h fun v w' _=>v=.int .u8 (ak s (sk s a):Nat)/\Own w' rb 67 [.string s,nV (sk s a),iV (-1)]):=by
 have d:UpM [rb] w h w h:=UpM.refl g;obtain ⟨wz,C,b⟩:=SS.at_ g ho Z;replace b:=(b.add (K:=fun z=>Tab z) tb);refine go Tryz.func17 [(0,pB rb)] rfl (aa b ac (ai (kZ ?_)));refine bG _ (CG.loop (fun J Γ X=>∃ (k:Nat)(z:Hp),J=s.size-k/\Γ=[(0,pB rb),(2,.int .u8 0)]/\SS wz C X z [⟨rb,67,[.string s,nV k,iV (-1)]⟩] [] [fun z=>Tab z]/\a<=k/\k<=s.size/\UpM [rb] w h X z/\(∀ i,a<=i->i<k->vY (ak s i)=true)) _ ⟨a,h,rfl,rfl,b.to _ _,nR _,ha,d,(fun i h1 L=>absurd h1 oM)⟩ ?_);rintro _ _ w1 ⟨k,L,Y,rfl,b,p,u,d,f⟩;refine cQ (cQ (cR 22 [] mixed b aw ?_));refine eV 0 3 (pB rb) (eV 1 4 (pB rb) (eV 2 5 (qP rb 1) (eO 3 6 [(0,1,1)] (nV k) b (eV 4 7 (pB rb) (eV 5 8 (pB rb) (eV 6 9 (pB rb) (eO 7 10 [(0,0,1)] (.string s) b (eV 8 11 (nV s.size) ?_))))))));cases l:(decide ((k:Int)<(s.size:Int)))
 .
  have D:=oF l;refine eB 9 12 l (eV 10 13 qF (eG 11 14 (eG 12 15 (eG 13 16 (eG 14 17 (eG 15 18 (eG 16 19 (eG 17 20 (eG 18 21 (eG 19 22 (eG 20 23 (eV 21 24 qF (bL b (fun w5 h6 u7 b=>?_))))))))))))));replace d:=d.trans (u7.m _);refine tN (da (CG.exit ?_))
  show CG _ _ _ _ _ _ _ _
  refine cQ (cQ (cR 10 [] mixed b aw ?_));refine eV 0 32 (pB rb) (eV 1 33 (pB rb) (eV 2 34 (qP rb 1) (eO 3 35 [(0,1,1)] (nV k) b (eV 4 36 (pB rb) (eV 5 37 (pB rb) (eV 6 38 (pB rb) (eO 7 39 [(0,0,1)] (.string s) b (eV 8 40 (nV s.size) ?_))))))));cases y:((k:Int) == (s.size:Int))
  .
   have B:=ao y;refine eB 9 41 y (bL b (fun w9 _ W b=>?_));replace d:=d.trans (W.m _);refine tN (da (cK (cQ (cR 9 [] mixed b aw ?_))));refine eV 0 42 (pB rb) (eV 1 43 (pB rb) (eV 2 44 (pB rb) (eO 3 45 [(0,0,1)] (.string s) b (eV 4 46 (pB rb) (eV 5 47 (pB rb) (eV 6 48 (qP rb 1) (eO 7 49 [(0,1,1)] (nV k) b (eV 8 50 (.int .u8 (ak s k:Nat)) ?_ (hv:=fun _=>aU (tx:=9) (x:=.tmp 45) (i:=.tmp 49) (k:=.i64) (s:=s) (n:=k) (j:=(k:Int)) kR kR kR kR oM oM _)))))))));refine bL b (fun _ _ I b=>?_);replace d:=d.trans (I.m _);refine tV 9 2 (.int .u8 (ak s k:Nat)) (tN (bG [(2,.int .u8 (ak s k:Nat))] ?_));refine kX ?_;have e:sk s a=k:=dy p u f (by first|exact .inl oM|exact .inr (decide_eq_false oM));exact b.retM d [] (.int .u8 (ak s k:Nat)) (by rw[e];exact ⟨rfl,b.own 0⟩)
  have B:=eq_of_beq y;refine eB 9 41 y (bL b (fun _ _ S b=>?_));replace d:=d.trans (S.m _);refine tN (ci (aa b ac (lN (kX ?_))));have e:sk s a=k:=dy p u f (by first|exact .inl oM|exact .inr (decide_eq_false oM));exact b.retM d [] (.int .u8 0) (by rw[e,cw oM];exact ⟨rfl,b.own 0⟩)
 have D:=oT l;refine eB 9 12 l (eV 10 13 qT (eV 11 14 (pB rb) (eV 12 15 (pB rb) (eV 13 16 (pB rb) (eO 14 17 [(0,0,1)] (.string s) b (eV 15 18 (pB rb) (eV 16 19 (pB rb) (eV 17 20 (qP rb 1) (eO 18 21 [(0,1,1)] (nV k) b (eV 19 22 (.int .u8 (ak s k:Nat)) ?_ (hv:=fun _=>aU (tx:=9) (x:=.tmp 17) (i:=.tmp 21) (k:=.i64) (s:=s) (n:=k) (j:=(k:Int)) kR kR kR kR oM oM _)))))))))));cases H:(((ak s k:Nat):Int) == (32:Int))
 .
  have zc:=ao H;refine eB 20 23 H (eV 21 24 qF (bL b (fun _ _ O b=>?_)));replace d:=d.trans (O.m _);refine tN (da (CG.exit ?_))
  show CG _ _ _ _ _ _ _ _
  refine cQ (cQ (cR 10 [] mixed b aw ?_));refine eV 0 32 (pB rb) (eV 1 33 (pB rb) (eV 2 34 (qP rb 1) (eO 3 35 [(0,1,1)] (nV k) b (eV 4 36 (pB rb) (eV 5 37 (pB rb) (eV 6 38 (pB rb) (eO 7 39 [(0,0,1)] (.string s) b (eV 8 40 (nV s.size) ?_))))))));cases F:((k:Int) == (s.size:Int))
  .
   have zd:=ao F;refine eB 9 41 F (bL b (fun _ _ V b=>?_));replace d:=d.trans (V.m _);refine tN (da (cK (cQ (cR 9 [] mixed b aw ?_))));refine eV 0 42 (pB rb) (eV 1 43 (pB rb) (eV 2 44 (pB rb) (eO 3 45 [(0,0,1)] (.string s) b (eV 4 46 (pB rb) (eV 5 47 (pB rb) (eV 6 48 (qP rb 1) (eO 7 49 [(0,1,1)] (nV k) b (eV 8 50 (.int .u8 (ak s k:Nat)) ?_ (hv:=fun _=>aU (tx:=9) (x:=.tmp 45) (i:=.tmp 49) (k:=.i64) (s:=s) (n:=k) (j:=(k:Int)) kR kR kR kR oM oM _)))))))));refine bL b (fun _ _ M b=>?_);replace d:=d.trans (M.m _);refine tV 9 2 (.int .u8 (ak s k:Nat)) (tN (bG [(2,.int .u8 (ak s k:Nat))] ?_));refine kX ?_;have e:sk s a=k:=dy p u f (by first|exact .inl oM|exact .inr (decide_eq_false oM));exact b.retM d [] (.int .u8 (ak s k:Nat)) (by rw[e];exact ⟨rfl,b.own 0⟩)
  have zd:=eq_of_beq F;refine eB 9 41 F (bL b (fun _ _ Q b=>?_));replace d:=d.trans (Q.m _);refine tN (ci (aa b ac (lN (kX ?_))));have e:sk s a=k:=dy p u f (by first|exact .inl oM|exact .inr (decide_eq_false oM));exact b.retM d [] (.int .u8 0) (by rw[e,cw oM];exact ⟨rfl,b.own 0⟩)
 have zc:=eq_of_beq H;refine eB 20 23 H (eV 21 24 qT (bL b (fun _ ze U b=>?_)));replace d:=d.trans (U.m _);refine tN (ci (cK (kZ (kQ (lL b [.c,.v (pB rb),.v (qP rb 1),.o (nV k) 0 1 1] (bg 29 ((k:Nat)+1) (k+1) ?_))))));refine lL b [.v (pB rb),.v (qP rb 1)] (ce 0 1 ([nV (k+1)]) b (fun _ pu b=>?_));replace d:=d.put pu (n1.2 rfl) b.g;refine lD ?_;intro a_ ka;refine ⟨_,_,?_,⟨k+1,ze,rfl,rfl,b.to _ _,oM,oM,d,(fun i h1 L=>by rcases Kl.1 L with z|rfl;exact f i h1 z;exact decide_eq_true oM)⟩,ka.to _ kR⟩
 omega
theorem iK  (rb:Nat)(s:ByteArray)(D:s.size<=1000000)(a:Nat)(ha:a<=s.size)(c:Nat)(V:c≠0)(w:World)(h:Hp)(g:G w h)(L:Own w rb 67 [.string s,nV a,iV (-1)])(J:h[rb]?=some junk)(O:Tab h):Calls Tryz.prog 36 #[pB rb,.int .u8 (c:Nat)] w (bW rb w h fun v w' _=>(v=.bool true/\ak s (sk s a)=c/\sk s a<s.size/\Own w' rb 67 [.string s,nV (sk s a+1),iV (-1)])\/(v=.bool false/\ak s (sk s a)≠c/\Own w' rb 67 [.string s,nV (sk s a),iV (-1)])):=by
 have b:UpM [rb] w h w h:=UpM.refl g;obtain ⟨wz,I,d⟩:=SS.at_ g L J;replace d:=(d.add (K:=fun u=>Tab u) O);refine go Tryz.func36 [(0,pB rb),(1,.int .u8 (c:Nat))] rfl (aa d ac (ai (cQ (CG.region ⟨[rb],none⟩ 23 [] mixed kR d.g aw (fun _ Q=>by rw[n1.1 Q];exact aI (d.jk 0)) ?_))));refine eV 0 5 (pB rb) (eV 1 6 (pB rb) (eV 2 7 (qP rb 2) (Bm 3 8 [(0,2,1)] (iV (-1)) d b (fun w1 X d b=>eV 4 9 qF (eV 5 10 qF (eV 6 11 (pB rb) (eV 8 13 (.int .u8 (c:Nat)) ?_)))))));have x:=bB (s:=s) (a:=a) oM;refine jf 7 12 d b (n1.2 rfl) (n1.2 rfl) (fun _ _ d=>mn rb s D a ha _ _ d.g (d.own 0) (d.jk 0) d.f.1) ?_;rintro _ _ _ Z Y d S b ⟨rfl,j⟩;replace d:=(d.stepM 0 S j).to [⟨rb,67,[.string s,nV (sk s a),iV (-1)]⟩] [];cases i:(((ak s (sk s a):Nat):Int) != (c:Int))
 .
  have k:=ay i;refine eB 9 14 i (eV 10 15 qF (eV 11 16 qF (eV 12 17 (pB rb) (eV 13 18 (pB rb) (eV 14 19 (qP rb 1) (eV 16 21 (pB rb) (eV 17 22 (pB rb) (eV 18 23 (pB rb) ?_))))))));refine GK 15 20 [(0,1,1)] (nV (sk s a)) 19 24 [(0,0,1)] (.string s) d b ?_ ?_
  .
   intro W h9 d b;refine Bm 19 24 [(0,0,1)] (.string s) d b (fun _ _ d b=>eV 20 25 (nV s.size) ?_);cases p:(((sk s a:Nat):Int) == (s.size:Int))
   .
    have M:=ao p;refine eB 21 26 p (eV 22 27 qF (bL d (fun _ _ F d=>?_)));replace b:=b.trans (F.m _);refine tN (da (cK (aa d [.c,.v (pB rb),.v (qP rb 1),.o (nV (sk s a)) 0 1 1] (bg 32 ((sk s a:Nat)+1) ((sk s a)+1) ?_))));refine lL d [.v (pB rb),.v (qP rb 1)] (ce 0 1 ([nV ((sk s a)+1)]) d (fun _ z d=>?_));replace b:=b.put z (n1.2 rfl) d.g;refine aE (lL d ac (lN (kX ?_)));have e:=cn (s:=s) (a:=sk s a) oM;exact d.retM b [] qT (.inl ⟨rfl,by omega,by omega,d.own 0⟩)
   have M:=eq_of_beq p;refine eB 21 26 p (eV 22 27 qT (bL d (fun _ _ B d=>?_)));replace b:=b.trans (B.m _);exact tN (ci (aa d ac (lN (kX (d.retM b [] qF (.inr ⟨rfl,by first|omega|(intro u;have e:=cn (s:=s) (a:=sk s a) oM;omega),d.own 0⟩))))))
  intro _ _ d b;refine eV 20 25 (nV s.size) (Bm 15 20 [(0,1,1)] (nV (sk s a)) d b (fun _ _ d b=>?_));cases l:(((sk s a:Nat):Int) == (s.size:Int))
  .
   have U:=ao l;refine eB 21 26 l (eV 22 27 qF (bL d (fun _ _ y d=>?_)));replace b:=b.trans (y.m _);refine tN (da (cK (aa d [.c,.v (pB rb),.v (qP rb 1),.o (nV (sk s a)) 0 1 1] (bg 32 ((sk s a:Nat)+1) ((sk s a)+1) ?_))));refine lL d [.v (pB rb),.v (qP rb 1)] (ce 0 1 ([nV ((sk s a)+1)]) d (fun _ z d=>?_));replace b:=b.put z (n1.2 rfl) d.g;refine aE (lL d ac (lN (kX ?_)));have e:=cn (s:=s) (a:=sk s a) oM;exact d.retM b [] qT (.inl ⟨rfl,by omega,by omega,d.own 0⟩)
  have U:=eq_of_beq l;refine eB 21 26 l (eV 22 27 qT (bL d (fun _ _ C d=>?_)));replace b:=b.trans (C.m _);exact tN (ci (aa d ac (lN (kX (d.retM b [] qF (.inr ⟨rfl,by first|omega|(intro u;have e:=cn (s:=s) (a:=sk s a) oM;omega),d.own 0⟩))))))
 have k:=a6 i;refine eB 9 14 i (eV 10 15 qT (eV 11 16 qT (eG 12 17 (eG 13 18 (eG 14 19 (eG 15 20 (eG 16 21 (eG 17 22 (eG 18 23 (eG 19 24 (eG 20 25 (eG 21 26 (eV 22 27 qT (bL d (fun _ _ H d=>?_)))))))))))))));replace b:=b.trans (H.m _);exact tN (ci (aa d ac (lN (kX (d.retM b [] qF (.inr ⟨rfl,by first|omega|(intro u;have e:=cn (s:=s) (a:=sk s a) oM;omega),d.own 0⟩))))))
end Go.Proofs.YtffiihfdjnmhpaaGreatDoor
