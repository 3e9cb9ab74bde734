/- Laws of this claim, part 4. -/
import Derived.Test.YtpnchlalmgmkeaaGreatDoorQh0
import Derived.Test.YtpnchlalmgmkeaaGreatDoorQh1
import Derived.Test.YtpnchlalmgmkeaaGreatDoorQh2
set_option maxRecDepth 100000
set_option maxHeartbeats 4000000
namespace Go.Proofs.YtpnchlalmgmkeaaGreatDoor
open _root_.Array renaming getElem?_eq_some_iff -> g4, getElem?_push_size -> e6, getElem?_setIfInBounds_ne -> g6, getElem?_setIfInBounds_self_of_lt -> yz, size_setIfInBounds -> KY
open Bool renaming noConfusion -> KN
open Int renaming emod_lt_of_pos -> KD, emod_nonneg -> KC, lt_or_le -> KE, lt_trichotomy -> Ke, sign_eq_neg_one_iff_neg -> KU, sign_eq_neg_one_of_neg -> JW, sign_eq_one_of_pos -> JX, sign_eq_zero_iff_zero -> KM, sign_trichotomy -> KV, tmod_eq_emod_of_nonneg -> KF
open List renaming getD_eq_getElem?_getD -> zY, getElem?_eq_none -> pe, getElem?_map -> As, getElem?_zipIdx -> KZ, getElem_mem -> fu, length_append -> yh, length_cons -> ul, length_nil -> KR, length_replicate -> KX, length_set -> Gx, length_singleton -> KK, map_congr_left -> KT, mem_cons -> g1, mem_iff_getElem? -> K0, mem_map -> gs, mem_range -> hP, mem_singleton -> ov, range -> hO, replicate -> yp, toArray -> J8
open Nat renaming add_zero -> ya, le_add_right -> KL, le_mul_of_pos_left -> J5, le_mul_of_pos_right -> KP, le_refl -> ep, le_trans -> eu, lt_of_le_of_lt -> yM, min_eq_right -> Ag, mul_assoc -> yW, mul_comm -> yT, mul_le_mul_left -> y9, mul_le_mul_right -> ym, mul_left_comm -> KQ, not_lt_zero -> KO, succ_ne_zero -> KS, succ_pos -> JO, zero_add -> yl, zero_le -> JL
open Option renaming mem_toList -> KJ
open Rat renaming add_comm -> KI, not_le -> KW, num_eq_zero -> KH, num_nonneg -> KG
open Go.RowKit
open Go.RowKit Go.Shelf
theorem GU (a:Nat)(A:Z9)(c:Nat)(l:(lim a).length<=c)(z:(lim a).length<=300000000)(w:World)(h:Hp)(g:G w h)(i:S3 A (lim a) h):CV 38 #[.slice A ((lim a).length) c] w h (nv a):=by
 have b:=((sS g).aS i);have e:=rv a;refine go Tryz.func38 [(0,qS A ((lim a).length) c)] rfl (aD (lA 2 25 ([uV 0,eS]) b (fun u w2 x b=>aR (lL b ac (lC 4 b (uf a A c l oM _ _ b.g b.f.1) ?_)))));rintro _ o y b ⟨j,rfl,d⟩;replace b:=b.aS d;exact am 5 b (vW a ((nb a+7)/8) j ((nb a+7)/8) (nR _) oM (vR a) _ _ b.g b.f.1) (fun p B b=>lP 0 0 (nc a) b (fun _ b=>ae b [(0,0,2)] (nv a) rfl))
theorem H6 (z:Int)(A:Z9)(c:Nat)(e:(lim (ab z)).length<=c)(j:(lim (ab z)).length<=300000000)(w:World)(h:Hp)(g:G w h)(d:S3 A (lim (ab z)) h):CV 36 #[.agg #[.bool (aw z),.slice A ((lim (ab z)).length) c]] w h (iv z):=by
 have a:=((sS g).aS d);have i:=BG (ab z);refine go Tryz.func36 [(0,.agg #[.bool (aw z),qS A ((lim (ab z)).length) c])] rfl (aD (lA 1 37 ([.bool (aw z),qS A ((lim (ab z)).length) c]) a (fun b w2 x a=>lA 2 27 ([qF,uV 0,eS]) a (fun p o B a=>af (cR 6 [] mixed a aq ?_)))));exact eV 0 3 (pB b) (eO 1 4 [(1,0,1)] (.bool (aw z)) a (eV 2 5 (qP b 1) (eO 3 6 [(1,1,1)] (qS A ((lim (ab z)).length) c) a (ai 4 7 a (fun _ _ a=>GU (ab z) A c e (by first|exact j|exact LQ.ld hq|omega) _ _ a.g a.f.1) (fun y l a=>ai 5 8 a (fun _ _ a=>fh (aw z) (ab z) oM _ _ a.g) (fun u _ a=>bY a (fun _ _ a=>tP 6 0 0 (ic (cF (aw z) (ab z))) a (fun _ a=>tN (kX (a.ret [(0,0,3)] (iv (cF (aw z) (ab z))) (congrArg iv (kM z))))))))))))
theorem u6 (q:Rat):mkR q.num ((q.den:Nat):Int)=q:=by
 unfold mkR;rw[if_neg oM];show mkRat q.num q.den=q;rw[Rat.mkRat_self]
theorem Ji (q:Rat)(d:Z9)(c1:Nat)(b:Z9)(c:Nat)(u:(lim (ab q.num)).length<=c1)(i:(lim q.den).length<=c)(e:LQ 100000000 q)(w:World)(h:Hp)(g:G w h)(j:S3 d (lim (ab q.num)) h)(l:S3 b (lim q.den) h)(B:Tab h):CV 15 #[rG q d c1 b c] w h (qv q):=by
 have a:=((((sS g).aS j).aS l).add (K:=fun y=>Tab y) B);refine go Tryz.func15 [(0,rG q d c1 b c)] rfl (aD (lA 1 39 (Dd q d c1 b c) a (fun x w2 I a=>lA 2 29 a1 a (fun F D L a=>af ?_))));have p:=a;exact cR 12 [⟨11,3,.cells (J8 [qF,uV 0,eS,uV 0,eS]) 29 (0,0)⟩] mixed a (bv (dM kR (fun _ _=>by kernel_rfl)) aq) (eV 0 6 (pB x) (eO 1 7 [(1,0,2)] (.agg #[.bool (aw q.num),qS d ((lim (ab q.num)).length) c1]) a (eV 3 9 (qP x 2) (eO 4 10 [(1,2,1)] (qS b ((lim q.den).length) c) a (ai 2 8 a (fun _ _ a=>H6 q.num d c1 u (LQ.ln e) _ _ a.g a.f.r.1) (fun J C a=>ai 5 11 a (fun _ _ a=>GU q.den b c i (by first|exact hl|exact LQ.ld e|omega) _ _ a.g a.f.2.1) (fun H _ a=>ai 6 12 a (fun _ _ a=>dQ q.den _ _ a.g) (fun _ _ a=>ai 7 13 a (fun _ _ a=>G9 q.num (q.den:Int) (by have:=q.den_pos;omega) (by have:=e.1;omega) (by show (wds q.den).length<=_;have:=e.2;omega) _ _ a.g a.f.1) (fun _ _ a=>eV 8 5 (.tuple #[qv (mkR q.num (q.den:Int)),qT]) (eV 9 14 (qv (mkR q.num (q.den:Int))) (eV 10 15 qT (eP [] p a 29 [qF,uV 0,eS,uV 0,eS] (fun _ _ z a=>tP 12 0 0 (qc (mkR q.num (q.den:Int))) a (fun _ a=>tV 13 4 qT (xL (lL a [.o (qv (mkR q.num (q.den:Int))) 0 0 5] (lP 1 0 (qc (mkR q.num (q.den:Int))) a (fun _ a=>ae a [(1,0,5)] (qv (mkR q.num (q.den:Int))) (congrArg qv (u6 q))))))))))))))))))))
theorem Hs (v:Value)(q:Rat)(a:LQ 100000000 q)(w:World)(h:Hp)(g:G w h)(hv:RQ h v q)(b:Tab h):CV 15 #[v] w h (qv q):=by
 obtain ⟨A,c,B,d,rfl,h1,i,f,e⟩:=hv;exact Ji q A c B d h1 i a w h g f e b
theorem su (n:Nat)(z:(wds n).length<=100000000)(w:World)(h:Hp)(g:G w h):CR 130 #[nv n] w h (fun v h1=>RN h1 v n):=by
 have a:=sS g;have c:=me n;refine go Tryz.func130 [(0,nv n)] rfl (aD (lA 1 25 (nc n) a (fun u w2 x a=>lL a ac (aR (lL a [.o (nv n) 0 0 2] (lC 4 a (vZ n oM _ _ a.g) ?_))))));rintro _ p y a ⟨i,rfl,b⟩;replace a:=a.aS b;refine lC 5 a (u5 n ((nb n+7)/8) i ((nb n+7)/8) (nR _) oM (vR n) _ _ a.g a.f.1) ?_;rintro _ _ _ a ⟨e,l,rfl,d,j⟩;replace a:=a.aS j;exact lL a ac (ae a [] (qS e ((lim n).length) l) (⟨_,_,rfl,d,a.f.1⟩))
theorem Ac (z:Int):cF (decide (z.sign<(0:Int))) (ab z)=z:=by
 rcases Ke z 0 with h|h|h
 ·rw[JW h];unfold cF ab;simp;omega
 ·subst h;rfl
 ·rw[JX h];unfold cF ab;simp;omega
theorem Co (z:Int)(F:(wds (ab z)).length<=100000000)(w:World)(h:Hp)(g:G w h):CR 128 #[iv z] w h (fun v h1=>RI h1 v z):=by
 have a:=sS g;refine go Tryz.func128 [(0,iv z)] rfl (aD (lA 1 27 (ic z) a (fun u w2 C a=>lA 2 37 ([qF,sZ]) a (fun y x H a=>af (cR 7 [] mixed a aq ?_)))));refine eO 0 3 [(1,0,3)] (iv z) a (eO 3 6 [(1,0,3)] (iv z) a (ai 1 4 a (fun _ _ a=>lk z oM _ _ a.g) (fun D p a=>eV 2 5 (.bool (decide ((z.sign:Int)<(0:Int)))) (ai 4 7 a (fun _ _ a=>tH z _ _ a.g) (fun B _ a=>eC 5 8 a (fun _ _ a=>su (ab z) (by first|exact hq.2|omega) _ _ a.g) ?_)))));rintro _ _ _ _ _ a ⟨i,j,rfl,o,l⟩;replace a:=a.aS l;refine eC 6 9 a (fun _ _ a=>rI (decide ((z.sign:Int)<(0:Int))) (ab z) i j o _ _ a.g a.f.1) ?_;rintro _ _ _ _ _ a ⟨b,c,rfl,d,e⟩;replace a:=a.aS e;exact bY a (fun _ _ a=>tP 7 0 0 ([.bool (aw (cF (decide ((z.sign:Int)<(0:Int))) (ab z))),qS b ((lim (ab (cF (decide ((z.sign:Int)<(0:Int))) (ab z)))).length) c]) a (fun _ a=>tN (kX (a.ret [(0,0,2)] (.agg #[.bool (aw (cF (decide ((z.sign:Int)<(0:Int))) (ab z))),qS b ((lim (ab (cF (decide ((z.sign:Int)<(0:Int))) (ab z)))).length) c]) (by rw[Ac] at *;exact ⟨_,_,rfl,d,a.f.1⟩)))))
theorem In (q:Rat)(c:LQ 100000000 q)(w:World)(h:Hp)(g:G w h):CR 90 #[qv q] w h (fun v h1=>RQ h1 v q):=by
 have a:=sS g;refine go Tryz.func90 [(0,qv q)] rfl (aD (lA 1 29 (qc q) a (fun x w2 B a=>lA 2 39 da a (fun z y D a=>af (cR 7 [] mixed a aq ?_)))));refine eO 0 3 [(1,0,5)] (qv q) a (eO 3 6 [(1,0,5)] (qv q) a (ai 1 4 a (fun _ _ a=>Iz q _ _ a.g) (fun C u a=>eC 2 5 a (fun _ _ a=>Co q.num c.1 _ _ a.g) ?_)));rintro _ _ _ _ _ a ⟨e,b,rfl,p,j⟩;replace a:=a.aS j;refine ai 4 7 a (fun _ _ a=>eM q c _ _ a.g) (fun _ _ a=>eC 5 8 a (fun _ _ a=>su q.den (by first|exact c.2|omega) _ _ a.g) ?_);rintro _ _ _ _ _ a ⟨d,i,rfl,l,o⟩;replace a:=a.aS o;exact eV 6 9 (rG q e b d i) (bY a (fun _ _ a=>tP 7 0 0 (Dd q e b d i) a (fun _ a=>tN (kX (a.ret [(0,0,3)] (rG q e b d i) (⟨_,_,_,_,rfl,p,l,a.f.2.1,a.f.1⟩))))))
def iN (a b:Rat):Bool:=decide (a=b)
theorem Ch {a b:Rat}(h1:bV (ab a.num) (ab b.num)=0)(e:aw a.num=aw b.num)(c:bV a.den b.den=0):true=iN a b:=by
 have e1:ab a.num=ab b.num:=by unfold bV at h1;split at h1;omega;split at h1;omega;omega
 have d:a.den=b.den:=by unfold bV at c;split at c;omega;split at c;omega;omega
 have e2:a.num=b.num:=by rw[<-kM a.num,<-kM b.num,e1,e]
 symm
 exact decide_eq_true (Rat.ext e2 d)
theorem m8 (a:Nat):bV a a=0:=by simp[bV]
theorem nO {a b:Rat}(h:bV (ab a.num) (ab b.num)≠0\/aw a.num≠aw b.num\/bV a.den b.den≠0):false=iN a b:=by
 symm
 refine decide_eq_false ?_;rintro rfl
 rcases h with h|h|h
 ·exact h (m8 _)
 ·exact h rfl
 ·exact h (m8 _)
theorem G0 (q r:Rat)(C:LQ 100000000 q)(hr:LQ 100000000 r)(i:Z9)(c1:Nat)(b:Z9)(d:Nat)(K:(lim (ab r.num)).length<=c1)(y:(lim r.den).length<=d)(w:World)(h:Hp)(g:G w h)(H:S3 i (lim (ab r.num)) h)(I:S3 b (lim r.den) h):CV 57 #[qv q,rG r i c1 b d] w h (.bool (iN q r)):=by
 have a:=(((sS g).aS H).aS I);have j:0<(lim r.den).length:=dN.2 r.den_pos;have U:=LQ.ln C;have Z:=LQ.ld C;have W:=LQ.ln hr;have X:=LQ.ld hr;refine go Tryz.func57 [(0,qv q),(1,rG r i c1 b d)] rfl (aD (lA 2 29 (qc q) a (fun b1 w2 h3 a=>lA 3 39 (Dd r i c1 b d) a (fun e w5 h6 a=>lL a ac (aR (lL a [.o (qv q) 1 0 5] (lC 7 a (In q C _ _ a.g) ?_)))))));rintro _ _ _ a ⟨D,F,J,z,rfl,x,Q,Y,S⟩;replace a:=a.aP Y S;refine lA 5 39 da a (fun l _ _ a=>lP 0 0 (Dd q D F J z) a (fun _ a=>af (aa a [.v (qP e 2),.o (qS b ((lim r.den).length) d) 1 2 1,.v (nV ((lim r.den).length))] ?_)));have L:((((lim r.den).length:Nat):Int) == (0:Int))=false:=(by simp;exact fun h=>Nat.lt_irrefl 0 (by rw[h] at j;exact j));have B:=ag L;refine lB 11 L (ah (cK (aa a [.v (pB l),.v (qP l 1),.o (qS D ((lim (ab q.num)).length) F) 0 1 1,.v (pB e),.v (qP e 1),.o (qS i ((lim (ab r.num)).length) c1) 1 1 1] (am 19 a (kH (ab q.num) D F x (ab r.num) i c1 K oM oM _ _ a.g a.f.2.1 a.f.r.2.1) (fun _ _ a=>?_)))));cases p:((bV (ab q.num) (ab r.num):Int) == (0:Int))
 .
  have V:=ag p;refine lB 20 p (lL a ac (lG 22 ?_));refine lG 23 (lG 24 (lG 25 (lG 26 (lG 27 (lG 28 (lL a [.v qF,.c] (lG 31 ?_)))))));exact lG 32 (lG 33 (lG 34 (lG 35 (lG 36 (lL a [.v qF,.c] (ae a [] qF (congrArg Value.bool (nO (by first|(left;assumption)|(right;right;assumption)|(right;left;exact beq_eq_false_iff_ne.1 ‹_›))))))))))
 have V:=eq_of_beq p;refine lB 20 p (lL a [.c,.v (pB l),.v (pB l),.o (.bool (aw q.num)) 0 0 1,.v (pB e),.v (pB e),.o (.bool (aw r.num)) 1 0 1] ?_);cases M:((aw q.num) == (aw r.num))
 .
  refine lB 28 M (lL a [.v qF,.c] (lG 31 ?_));exact lG 32 (lG 33 (lG 34 (lG 35 (lG 36 (lL a [.v qF,.c] (ae a [] qF (congrArg Value.bool (nO (by first|(left;assumption)|(right;right;assumption)|(right;left;exact beq_eq_false_iff_ne.1 ‹_›))))))))))
 refine lB 28 M (lL a [.v qT,.c,.v (qP l 2),.o (qS J ((lim q.den).length) z) 0 2 1,.v (qP e 2),.o (qS b ((lim r.den).length) d) 1 2 1] (am 35 a (kH q.den J z Q r.den b d y oM oM _ _ a.g a.f.1 a.f.r.1) (fun _ _ a=>?_)));cases u:((bV q.den r.den:Int) == (0:Int))
 .
  have O:=ag u;exact lB 36 u (lL a [.v qF,.c] (ae a [] qF (congrArg Value.bool (nO (by first|(left;assumption)|(right;right;assumption)|(right;left;exact beq_eq_false_iff_ne.1 ‹_›))))))
 have O:=eq_of_beq u;exact lB 36 u (lL a [.v qT,.c] (ae a [] qT (congrArg Value.bool (Ch aM (eq_of_beq ‹_›) aM))))
theorem LQ.mkR {n d:Int}(i:d≠0)(h0 : -9223372036854775808<=n)(h1:n<=9223372036854775807)(j : -9223372036854775808<=d)(f:d<=9223372036854775807):LQ 1 (mkR n d):=by
 unfold Go.Proofs.YtpnchlalmgmkeaaGreatDoor.mkR
 have a:0<ab d:=by unfold ab;omega
 obtain ⟨b,c,e,h⟩:=hJ (if d<0 then -n else n) (ab d) a;refine ⟨?_,?_⟩
 ·rw[b];refine dR.2 (yM (bX _ _ e) ?_)
  unfold ab;split<;>omega
 ·rw[c];exact dR.2 (yM (Nat.div_le_self _ _) (by unfold ab;omega))
theorem qN (q:Rat)(z e:Int)(x:LQ 100000000 q)(o:e≠0)(d : -9223372036854775808<=z)(y:z<9223372036854775808)(p : -4294967296<e)(l:e<4294967296)(w:World)(h:Hp)(g:G w h):CV 25 #[qv q,iV z,iV e] w h (.bool (iN q (mkR z e))):=by
 have a:=sS g;have hb:LQ 100000000 (mkR z e):=(LQ.mkR o d oM oM oM).mono oM;refine go Tryz.func25 [(0,qv q),(1,iV z),(2,iV e)] rfl (aD (lA 3 29 (qc q) a (fun F w2 H a=>lL a ac (af (cR 5 [] mixed a aq ?_)))));refine eO 0 7 [(0,0,5)] (qv q) a (eV 1 8 (iV z) (eV 2 9 (iV e) (eC 3 10 a (fun _ _ a=>uy z e oM oM oM oM oM _ _ a.g) ?_)));rintro _ _ _ _ _ a ⟨u,C,j,D,rfl,b,i,c,B⟩;replace a:=a.aP c B;exact ai 4 11 a (fun _ _ a=>G0 q (mkR z e) x hb u C j D b i _ _ a.g a.f.2.1 a.f.1) (fun _ _ a=>bY a (fun _ _ a=>tV 5 6 (.bool (iN q (mkR z e))) (tN (kX (a.ret [] (.bool (iN q (mkR z e))) rfl)))))
def cn (n:Int)(m:Nat):Nat:=(n%(m:Int)).toNat
theorem ez (n:Int)(m:Nat)(h:0<m):cn n m<m:=by
 unfold cn
 have h1:=KC n (show (m:Int)≠0 by omega);have a:=KD n (show (0:Int)<m by omega)
 omega
theorem pt (n:Int)(m:Nat)(h:0<m):((cn n m:Nat):Int)=n%(m:Int):=by
 unfold cn
 have h1:=KC n (show (m:Int)≠0 by omega)
 omega
theorem pz (n:Int)(m:Nat)(hm:0<m)(d:n<0):(n%(m:Int)=0/\n.tmod (m:Int)=0)\/(0<n%(m:Int)/\n.tmod (m:Int)=n%(m:Int)-m):=by
 have b:=KC n (show (m:Int)≠0 by omega);rw[Int.tmod_eq_emod]
 by_cases h:(m:Int)∣n
 ·left
  rw[if_pos (.inr h)];have:=Int.emod_eq_zero_of_dvd h;exact ⟨this,by omega⟩
 ·right
  have c:¬(n%(m:Int)=0):=fun a=>h (Int.dvd_of_emod_eq_zero a)
  rw[if_neg (by intro a;rcases a with a|a;omega;exact h a)];refine ⟨by omega,by simp⟩
def oh (k:Nat):Nat:=match k with|0=>1|1=>1|2=>1|3=>2|4=>3|_=>4
theorem oL (k:Nat):0<oh k:=by unfold oh;split<;>omega
theorem rL (k:Nat):oh k<=4:=by unfold oh;split<;>omega
def de (n:Int):Rat:=mkR ((cn n 41:Int)-20) (oh (cn (n.tdiv 41) 6):Nat)
def EU (n:Int):Rat:=mkR ((cn n 9:Int)-4) (((cn (n.tdiv 9) 2:Nat):Int)+1)
theorem te (n:Int)(m:Int)(hm:1<m)(a : -9223372036854775808<=n)(b:n<=9223372036854775807) : -9223372036854775808<=n.tdiv m/\n.tdiv m<=9223372036854775807:=by
 have h1:(n.tdiv m).natAbs<=n.natAbs/2:=by
  rw[Int.natAbs_tdiv];exact Nat.div_le_div_left oM oM
 omega
theorem vV {n:Int}{m:Nat}(hm:0<m)(h:n.tmod (m:Int)<0):n.tmod (m:Int)+m=((cn n m:Nat):Int):=by
 rw[pt n m hm]
 rcases KE n 0 with hn|hn
 ·rcases pz n m hm hn with ⟨h1,h2⟩|⟨h1,h2⟩<;>omega
 ·rw[KF hn] at h
  have:=KC n (show (m:Int)≠0 by omega)
  omega
theorem tC {n:Int}{m:Nat}(hm:0<m)(h:¬n.tmod (m:Int)<0):n.tmod (m:Int)=((cn n m:Nat):Int):=by
 rw[pt n m hm]
 rcases KE n 0 with hn|hn
 ·rcases pz n m hm hn with ⟨h1,h2⟩|⟨h1,h2⟩
  ·omega
  ·have:=KD n (show (0:Int)<m by omega)
   omega
 ·rw[KF hn]
theorem Bz (n:Int){m:Nat}(hm:0<m) : -(m:Int)<n.tmod (m:Int)/\n.tmod (m:Int)<m:=by
 have h1:=Int.tmod_lt_of_pos n (show (0:Int)<m by omega);have a:=Int.lt_tmod_of_pos n (show (0:Int)<m by omega);exact ⟨a,h1⟩
theorem ni (n:Int)(m:Nat)(hm:0<m)(f:m<1000000)(w:World)(h:Hp)(g:G w h):CV 39 #[iV n,nV m] w h (nV (cn n m)):=by
 have c:=sS g;obtain ⟨j,i⟩:=Bz n hm;refine go Tryz.func39 [(0,iV n),(1,nV m)] rfl (aa c ac (aR (lL c aK (lV 7 (iV (n.tmod (m:Nat))) ?_ (hr:=fR (t:=3) (u:=3) (x:=.tmp 5) (y:=.tmp 6) (k:=.i64) (a:=n) (b:=(m:Nat)) kR kR kR oM _)))));refine lL c ac (af (aa c ac ?_));cases d:(decide ((n.tmod (m:Nat):Int)<(0:Int)))
 .
  have e:=oF d;exact lB 9 d (ah (cK (aa c aK (ae c [] (iV (n.tmod (m:Nat))) (congrArg (Value.int .i64) (tC hm aM))))))
 have e:=oT d;refine lB 9 d (au (kQ (lL c aK (lI 12 ((n.tmod (m:Nat))+(m:Nat)) ?_))));exact lL c ac (aR (lL c aK (ae c [] (iV ((n.tmod (m:Nat))+(m:Nat))) (congrArg (Value.int .i64) (vV hm aM)))))
theorem wU (w:World):(Instr.index 109 (.agg #[.int .i64 1,.int .i64 1,.int .i64 1,.int .i64 2,.int .i64 3,.int .i64 4]) (.int .i64 0)).run Tryz.prog w=.ok (.int .i64 1) w:=by kernel_rfl
theorem wS (w:World):(Instr.index 109 (.agg #[.int .i64 1,.int .i64 1,.int .i64 1,.int .i64 2,.int .i64 3,.int .i64 4]) (.int .i64 1)).run Tryz.prog w=.ok (.int .i64 1) w:=by kernel_rfl
theorem uQ (w:World):(Instr.index 109 (.agg #[.int .i64 1,.int .i64 1,.int .i64 1,.int .i64 2,.int .i64 3,.int .i64 4]) (.int .i64 2)).run Tryz.prog w=.ok (.int .i64 1) w:=by kernel_rfl
theorem wG (w:World):(Instr.index 109 (.agg #[.int .i64 1,.int .i64 1,.int .i64 1,.int .i64 2,.int .i64 3,.int .i64 4]) (.int .i64 3)).run Tryz.prog w=.ok (.int .i64 2) w:=by kernel_rfl
theorem vX (w:World):(Instr.index 109 (.agg #[.int .i64 1,.int .i64 1,.int .i64 1,.int .i64 2,.int .i64 3,.int .i64 4]) (.int .i64 4)).run Tryz.prog w=.ok (.int .i64 3) w:=by kernel_rfl
theorem vC (w:World):(Instr.index 109 (.agg #[.int .i64 1,.int .i64 1,.int .i64 1,.int .i64 2,.int .i64 3,.int .i64 4]) (.int .i64 5)).run Tryz.prog w=.ok (.int .i64 4) w:=by kernel_rfl
theorem Fx (k:Nat)(h:k<6)(w:World):(Instr.index 109 (.agg #[.int .i64 1,.int .i64 1,.int .i64 1,.int .i64 2,.int .i64 3,.int .i64 4]) (.int .i64 (k:Int))).run Tryz.prog w=.ok (.int .i64 ((oh k:Nat):Int)) w:=by
 have:k=0\/k=1\/k=2\/k=3\/k=4\/k=5:=by omega
 rcases this with rfl|rfl|rfl|rfl|rfl|rfl
 ·exact wU w
 ·exact wS w
 ·exact uQ w
 ·exact wG w
 ·exact vX w
 ·exact vC w
theorem Ih {Γ:ck}{o:Oper}{x y:Operand}(k:Nat)(h:k<6)(c:o.op=.index 109 x y)(a:ev Γ x=.agg #[.int .i64 1,.int .i64 1,.int .i64 1,.int .i64 2,.int .i64 3,.int .i64 4])(b:ev Γ y=.int .i64 (k:Nat))(w:World) :
  (execOp (ev Γ) o).run Tryz.prog w=.ok (.value (.int .i64 (oh k:Nat))) w:=by
 unfold execOp;simp only[c];rw[a,b,Sem.run_bind,Fx k h w];rfl
theorem hR (n:Int)(h0 : -9223372036854775808<=n)(h1:n<=9223372036854775807)(w:World)(h:Hp)(g:G w h):CR 17 #[iV n] w h (fun v h1=>RQ h1 v (de n)):=by
 have a:=sS g;obtain ⟨L,H⟩:=te n 41 oM h0 h1;have I:=ez n 41 oM;have l2:=ez (n.tdiv 41) 6 oM;have J:=oL (cn (n.tdiv 41) 6);have B:=rL (cn (n.tdiv 41) 6);refine go Tryz.func17 [(0,iV n)] rfl (aD (lA 2 39 da a (fun D w2 K a=>aR (lL a ac (am 4 a (ni (n) 41 oM oM _ _ a.g) (fun F O a=>?_))))));have l:=ez (n) 41 oM;refine lI 5 ((cn (n) 41:Nat)-20) (lL a [.v (.agg #[iV 1,iV 1,iV 1,iV 2,iV 3,iV 4]),.c] (lV 8 (iV (n.tdiv 41)) ?_ (hr:=rS ((n.tdiv 41)) kR (nJ oM oM))));refine am 9 a (ni (n.tdiv 41) 6 oM oM _ _ a.g) (fun C M a=>?_);have o:=ez (n.tdiv 41) 6 oM;refine lV 10 (nV (oh (cn (n.tdiv 41) 6))) ?_ (hr:=Ih (x:=.tmp 6) (y:=.tmp 9) (cn (n.tdiv 41) 6) l2 kR kR kR _);refine lC 11 a (uy ((cn (n) 41:Nat)-20) (oh (cn (n.tdiv 41) 6):Nat) oM oM oM oM oM _ _ a.g) ?_;rintro _ _ _ a ⟨b,e,i,d,rfl,j,p,u,z⟩;replace a:=a.aP u z;exact lP 0 0 (Dd (de n) b e i d) a (fun _ a=>ae a [(0,0,3)] (rG (de n) b e i d) (⟨_,_,_,_,rfl,j,p,a.f.2.1,a.f.1⟩))
theorem LQ.hand (n:Int):LQ 1 (de n):=by
 unfold de
 have a:=ez n 41 oM;have b:=oL (cn (n.tdiv 41) 6);have c:=rL (cn (n.tdiv 41) 6);exact LQ.mkR oM oM oM oM oM
abbrev RT:=Bool × Value × Value
def DD (t:RT):List Value:=[.bool t.1,t.2.1,t.2.2]
def DR:RT:=(false,undef,undef)
abbrev rA (t:RT):Value:=.agg #[.bool t.1,t.2.1,t.2.2]
abbrev Sr (A:Z9)(l:List RT):Hp->Prop:=fun h_=>SlO 3 DD DR h_ A l
def Hc (t:RT):Value:=.agg #[.bool t.1,t.2.1,t.2.2]
structure RTs (h:Hp) (ts:List RT) (qs:List Rat):Prop where
  len:ts.length=qs.length
  at_:∀ i,i<qs.length->RQ h (Hc (ts.getD i DR)) (qs.getD i 0)
abbrev Rt (t:List RT)(l:List Rat):Hp->Prop:=fun h_=>RTs h_ t l
theorem RTs.gw {h b:Hp}{a:List RT}{c:List Rat}(r:RTs h a c)(u:Gw h b):RTs b a c:=⟨r.len,fun i hi=>(r.at_ i hi).gw u⟩
theorem SS.aT {t:List RT}{l:List Rat}{w0 w:World}{h0 h:Hp}{B:List Bx}{R:List Rw}{F:List (Hp->Prop)}(s:SS w0 h0 w h B R F)(p:RTs h t l):SS w0 h0 w h B R (Rt t l::F):=s.add (K:=Rt t l) p
theorem RTs.nil {h:Hp}:RTs h [] []:=⟨rfl,fun i hi=>by simp at hi⟩
theorem ei {α:Type}(l:List α)(x d:α)(i:Nat):(l++[x]).getD i d=if i<l.length then l.getD i d else if i=l.length then x else d:=by
 split
 ·rename_i h;simp[List.getElem?_append_left h]
 ·rename_i h
  split
  ·rename_i a;subst a;simp
  ·rename_i a;simp[pe (show (l++[x]).length<=i by simp;omega)]
theorem RTs.snoc {h:Hp}{b:List RT}{a:List Rat}(r:RTs h b a){t:RT}{q:Rat}(c:RQ h (Hc t) q):RTs h (b++[t]) (a++[q]):=by
 refine ⟨by simp[r.len],fun i hi=>?_⟩;rw[ei,ei,r.len]
 split
 ·rename_i h1;exact r.at_ i h1
 ·rename_i h1
  have:i=a.length:=by simp at hi;omega
  rw[if_pos this,if_pos this];exact c
theorem k8 {α:Type}{l:List α}{k:Nat}(d:α)(h:k<l.length):l.take (k+1)=l.take k++[l.getD k d]:=by
 rw[List.take_add_one];simp[h]
def vc (v:Value):List Value:=[v]
abbrev Sv (A:Z9)(l:List Value):Hp->Prop:=fun h_=>SlO 1 vc undef h_ A l
def kf (zs:List Int):Nat->List Rat
  | 0=>[]
  | k+1=>kf zs k++[if k<zs.length then de (zs.getD k 0) else 0]
theorem oZ (a:List Int)(k:Nat):(kf a k).length=k:=by induction k with|zero=>rfl|succ k ih=>simp[kf,ih]
def pp (zs:List Int):Prop:=∀ k,-9223372036854775808<=zs.getD k 0/\zs.getD k 0<=9223372036854775807
structure RVs (h:Hp) (vs:List Value) (qss:List (List Rat)):Prop where
  len:vs.length=qss.length
  at_:∀ i,i<qss.length->∃ A cap,∃ ts:List RT,vs.getD i undef=.slice A ts.length cap/\ts.length<=cap/\SlO 3 DD DR h A ts/\RTs h ts (qss.getD i [])
abbrev Ru (t:List Value)(l:List (List Rat)):Hp->Prop:=fun h_=>RVs h_ t l
structure QVs (h:Hp) (vs:List Value) (qss:List (List Rat)):Prop where
  len:vs.length=qss.length
  at_:∀ i,i<qss.length->HG 5 qc 0 h (vs.getD i undef) (qss.getD i [])
abbrev Qu (t:List Value)(l:List (List Rat)):Hp->Prop:=fun h_=>QVs h_ t l
theorem ne {b:List Int}{k:Nat}{q:Rat}(d:(if k<b.length then de (b.getD k 0) else 0)=q){a:List RT}{c:Hp}(e:RTs c a (kf b k++[q])):RTs c a (kf b (k+1)):=by
 show RTs c a (kf b k++[_]);rw[d];exact e
theorem sU (a:List Int):∀ n i,LQ 1 ((kf a n).getD i 0)
  | 0,i=>LQ.lit (z:=0) kD
  | n + 1,i=>by
    show LQ 1 ((kf a n++[_]).getD i 0)
    rw[ei]
    split
    . exact sU a n i
    . split
      . split
        . exact LQ.hand _
        . exact LQ.lit (z:=0) kD
      . exact LQ.lit (z:=0) kD
theorem G4 {h:Hp}{A D:Z9}{c d:Nat}{q:Rat}(h1:(lim (ab q.num)).length<=c)(e:(lim q.den).length<=d)(b:SlO 1 fH 0 h A (lim (ab q.num)))(a:SlO 1 fH 0 h D (lim q.den)):RQ h (Hc ((aw q.num,.slice A (lim (ab q.num)).length c,.slice D (lim q.den).length d):RT)) q:=⟨_,_,_,_,rfl,h1,e,b,a⟩
theorem El (A:Z9)(o:Nat)(e:List RT)(b:List Rat)(Z:b.length<=1000000)(hf:∀ i,i<b.length->LQ 100000000 (b.getD i 0))(w:World)(h:Hp)(g:G w h)(I:Sr A e h)(M:RTs h e b)(O:Tab h):CR 7 #[.slice A e.length o] w h (fun v h1=>HG 5 qc 0 h1 v b):=by
 have a:=((((sS g).aS I).aT M).add (K:=fun y=>Tab y) O);have F:=(a.f.2.1).len;refine go Tryz.func7 [(0,qS A e.length o)] rfl (aa a ac (aR (lL a ac (af (aa a ac (bh ?_))))));replace a:=a.nil 29 5;refine cj _ (CG.loop (fun C Γ J=>∃ (k:Nat)(u:Z9)(x:Nat)(d:List Rat)(y:Hp),C=b.length-k/\Γ=[(0,qS A e.length o),(2,sZ),(4,nV k),(3,qS u ((d).length) x)]/\SS w h J y [] [⟨29,5,u,x,(d).length,(d).flatMap qc⟩] [fun y=>Tab y,Rt e b,Sr A e]/\k<=b.length/\d=b.take k) _ ⟨0,none,0,[],h,rfl,rfl,a.to _ _,JL _,rfl⟩ ?_);rintro _ _ w1 ⟨k,u,x,d,Y,Q,rfl,a,hk,p⟩;have U:d.length=k:=by rw[p];simp;omega
 refine cQ (aa a [.c,.c,.v (nV e.length)] ?_);cases j:(decide ((k:Int)<(e.length:Int)))
 .
  have z:=oF j;refine lB 8 j (ah (CG.exit ?_))
  show CG _ _ _ _ _ _ _ _
  refine aa a aK (lN (kX ?_));have D:d=b:=by rw[p];exact List.take_of_length_le oM
  subst D;obtain ⟨h5,a,B⟩:=a.pubr 0 (A:=u) (c:=x) (l:=d) (f:=qc) (ty:=29) (sz:=5) 0 (fun _=>rfl);exact a.ret [] (qS u ((d).length) x) (⟨_,_,rfl,B,a.f.1⟩)
 have z:=oT j;refine lB 8 j (au (cK (cQ (kZ (kQ (lL a fE (lX 14 A e.length o 3 (k:Nat) k ((a.f.r.1).ok oM) ?_)))))));refine lH 15 (rA (e.getD k DR)) a ((a.f.r.1).el k oM) (am 16 a (Hs _ (b.getD k 0) (hf k oM) _ _ a.g ((a.f.2.1).at_ k oM) a.f.1) (fun X h9 a=>lR 17 29 1 (qc (b.getD k 0)) a (fun H _ _ a=>lY 18 0 29 5 x u d qc (b.getD k 0) 56 H ca a a.f.1 (fun V W _ S a=>lL a ac (lN (kQ (lL a ac (bI 10 ((k:Nat)+1) (k+1) ?_))))))));refine lL a ac (lD ?_);intro a_ L;replace a:=a.tl;refine ⟨_,_,?_,⟨k+1,V,W,d++[b.getD k 0],S,rfl,rfl,a.to _ _,oM,(by rw[k8 0 oM,p])⟩,L.to _ kR⟩
 omega
theorem Ir (A:Z9)(j:Nat)(b:List Int)(n:Nat)(hn:n<=1000000)(hl:b.length<=9223372036854775807)(hz:pp b)(w:World)(h:Hp)(g:G w h)(U:Si A b h):CR 8 #[.slice A b.length j,nV n] w h (fun v h1=>∃ A c,∃ d:List RT,v=.slice A d.length c/\d.length<=c/\Sr A d h1/\RTs h1 d (kf b n)):=by
 have a:=((sS g).aS U);refine go Tryz.func8 [(0,qS A b.length j),(1,nV n)] rfl (aa a ac (aR (lL a ac (af (aa a ac (bh ?_))))));replace a:=a.nil 39 3;replace a:=a.aT (RTs.nil);refine cj _ (CG.loop (fun J Γ V=>∃ (k:Nat)(o:Z9)(p:Nat)(d:List RT)(h_:Hp),J=n-k/\Γ=[(0,qS A b.length j),(1,nV n),(4,sZ),(6,nV k),(5,qS o ((d).length) p)]/\SS w h V h_ [] [⟨39,3,o,p,(d).length,(d).flatMap DD⟩] [Rt d (kf b k),Si A b]/\k<=n) _ ⟨0,none,0,[],h,rfl,rfl,a.to _ _,JL _⟩ ?_);rintro _ _ w1 ⟨k,o,p,d,h2,hm3,rfl,a,hk⟩;have I:=(a.f.1).len;rw[oZ] at I
 refine cQ (aa a aK ?_);cases i:(decide ((k:Int)<(n:Int)))
 .
  have u:=oF i;refine lB 9 i (ah (CG.exit ?_))
  show CG _ _ _ _ _ _ _ _
  refine aa a aK (lN (kX ?_));have M:k=n:=by omega
  subst M;obtain ⟨h5,a,D⟩:=a.pubr 0 (A:=o) (c:=p) (l:=d) (f:=DD) (ty:=39) (sz:=3) DR (fun _=>rfl);exact a.ret [] (qS o ((d).length) p) (⟨_,_,d,rfl,D,a.f.1,a.f.2.1⟩)
 have u:=oT i;refine lB 9 i (au (cK (cQ (kZ (aa a [.c,.c,.v (nV b.length)] ?_)))));cases e:(decide ((k:Int)<(b.length:Int)))
 .
  have x:=oF e;refine lB 15 e (ah (kQ (lL a ac (lC 25 a (JA 0 oM oM _ _ a.g) ?_))));rintro _ _ _ a ⟨B,y,z,C,rfl,zi,W,Z,zl⟩;replace a:=a.aP Z zl;refine lR 26 39 1 (Dd ((0:Int):Rat) B y z C) a (fun zq _ _ a=>lY 27 0 39 3 p o d DD ((aw ((0:Int):Rat).num,qS B ((lim (ab ((0:Int):Rat).num)).length) y,qS z ((lim ((0:Int):Rat).den).length) C):RT) 56 zq (.agg #[qF,sZ,sZ]) a a.f.1 (fun X zt _ S a=>lL a ac (lN (kQ (lL a ac (bI 11 ((k:Nat)+1) (k+1) ?_))))));refine lL a ac (lD ?_);intro a_ H;replace a:=(a.tl.tl.tl.tl.add (K:=Rt (d++[((aw ((0:Int):Rat).num,qS B ((lim (ab ((0:Int):Rat).num)).length) y,qS z ((lim ((0:Int):Rat).den).length) C):RT)]) (kf b (k+1))) (ne ((if_neg oM).trans (show (0:Rat)=((0:Int):Rat) from rfl)) (RTs.snoc a.f.r.2.1 (G4 zi W a.f.r.1 a.f.2.1))));refine ⟨_,_,?_,⟨k+1,X,zt,d++[((aw ((0:Int):Rat).num,qS B ((lim (ab ((0:Int):Rat).num)).length) y,qS z ((lim ((0:Int):Rat).den).length) C):RT)],S,rfl,rfl,a.to _ _,oM⟩,H.to _ kR⟩
  omega
 have x:=oT e;refine lB 15 e (au (kQ (lL a fE (lX 19 A b.length j 1 (k:Nat) k ((a.f.2.1).ok oM) ?_))));refine lH 20 (iV (b.getD k 0)) a ((a.f.2.1).el k oM) (lC 21 a (hR (b.getD k 0) (hz k).1 (hz k).2 _ _ a.g) ?_);rintro _ _ _ a ⟨Q,F,L,O,rfl,zm,zn,zo,zp⟩;replace a:=a.aP zo zp;refine lR 22 39 1 (Dd (de (b.getD k 0)) Q F L O) a (fun zv _ _ a=>lY 23 0 39 3 p o d DD ((aw (de (b.getD k 0)).num,qS Q ((lim (ab (de (b.getD k 0)).num)).length) F,qS L ((lim (de (b.getD k 0)).den).length) O):RT) 56 zv (.agg #[qF,sZ,sZ]) a a.f.1 (fun zw zx _ Y a=>lL a ac (lN (kQ (lL a ac (bI 11 ((k:Nat)+1) (k+1) ?_))))));refine lL a ac (lD ?_);intro a_ H;replace a:=(a.tl.tl.tl.tl.aT (ne (if_pos oM) (RTs.snoc a.f.r.2.1 (G4 zm zn a.f.r.1 a.f.2.1))));refine ⟨_,_,?_,⟨k+1,zw,zx,d++[((aw (de (b.getD k 0)).num,qS Q ((lim (ab (de (b.getD k 0)).num)).length) F,qS L ((lim (de (b.getD k 0)).den).length) O):RT)],Y,rfl,rfl,a.to _ _,oM⟩,H.to _ kR⟩
 omega
def maxR (a b:Rat):Rat:=if a<b then b else a
theorem LQ.maxR {k:Nat}{a b:Rat}(ha:LQ k a)(hb:LQ k b):LQ k (maxR a b):=by unfold Go.Proofs.YtpnchlalmgmkeaaGreatDoor.maxR;split;exact hb;exact ha
theorem Gh (a:Rat)(ha:LQ 100000000 a)(w:World)(h:Hp)(g:G w h):CV 102 #[qv a] w h (qv (a8 a)):=by
 have b:=sS g;refine go Tryz.func102 [(0,qv a)] rfl (aD (lA 1 29 (qc a) b (fun c w2 i b=>lA 2 29 a1 b (fun j e f b=>af (cR 7 [] mixed b aq ?_)))));exact eV 0 3 (pB c) (eO 1 4 [(1,0,3)] (iv a.num) b (eV 4 7 (qP c 3) (eO 5 8 [(1,3,2)] (nv (qd a)) b (ai 2 5 b (fun _ _ b=>tH a.num _ _ b.g) (fun l o b=>ai 3 6 b (fun _ _ b=>dQ (ab a.num) _ _ b.g) (fun d _ b=>eV 6 9 (.agg #[.bool (aw (((ab a.num):Nat):Int)),uV (lo (ab (((ab a.num):Nat):Int))),.string (hi (ab (((ab a.num):Nat):Int))),uV (lo (qd a)),.string (hi (qd a))]) (bY b (fun _ _ b=>tP 7 0 0 ([.bool (aw (((ab a.num):Nat):Int)),uV (lo (ab (((ab a.num):Nat):Int))),.string (hi (ab (((ab a.num):Nat):Int))),uV (lo (qd a)),.string (hi (qd a))]) b (fun _ b=>tN (kX (b.ret [(0,0,5)] (.agg #[.bool (aw (((ab a.num):Nat):Int)),uV (lo (ab (((ab a.num):Nat):Int))),.string (hi (ab (((ab a.num):Nat):Int))),uV (lo (qd a)),.string (hi (qd a))]) (ik (mc a) (by unfold qd;rw[pO])))))))))))))
structure Lay where
  k:Int
  W:List (List Rat)
  B:List Rat
def iG:Lay:=⟨0,[],[]⟩
abbrev LV:=Int × Value × Value
def FF:LV:=(0,undef,undef)
structure NetL (h:Hp) (ts:List LV) (ls:List Lay):Prop where
  len:ts.length=ls.length
  at_:∀ i,i<ls.length->(ts.getD i FF).1=(ls.getD i iG).k/\(∃ A c,∃ us:List Value,(ts.getD i FF).2.1=.slice A us.length c/\us.length<=c/\SlO 1 vc undef h A us/\QVs h us (ls.getD i iG).W)/\HG 5 qc 0 h (ts.getD i FF).2.2 (ls.getD i iG).B
abbrev Nn (t:List LV)(l:List Lay):Hp->Prop:=fun h_=>NetL h_ t l
structure RNetL (h:Hp) (ts:List LV) (ls:List Lay):Prop where
  len:ts.length=ls.length
  at_:∀ i,i<ls.length->(ts.getD i FF).1=(ls.getD i iG).k/\(∃ A c,∃ us:List Value,(ts.getD i FF).2.1=.slice A us.length c/\us.length<=c/\SlO 1 vc undef h A us/\RVs h us (ls.getD i iG).W) /\
    (∃ A c,∃ rs:List RT,(ts.getD i FF).2.2=.slice A rs.length c/\rs.length<=c/\SlO 3 DD DR h A rs/\RTs h rs (ls.getD i iG).B)
abbrev Rn (t:List LV)(l:List Lay):Hp->Prop:=fun h_=>RNetL h_ t l
def xR (l:List Rat):Prop:=∀ q∈l,∃ z,q=EU z
structure LayMk (L:Lay) (kq:Nat) (r c:Nat):Prop where
  k:L.k=(kq:Int)
  rows:L.W.length=r
  row:∀ q∈L.W,q.length=c/\xR q
  bl:L.B.length=r
  bs:xR L.B
theorem vI (A:Z9)(i:Nat)(e:List Int)(M:e.length<=9223372036854775807)(hz:pp e)(a at_:Nat)(ha:at_<=e.length)(w:World)(h:Hp)(g:G w h)(D:Own w a 69 [.slice A e.length i,nV at_])(C:h[a]?=some bj)(x:Si A e h):Calls Tryz.prog 40 #[pB a] w (dX a w h fun v w' _=>∃ (z:Int)(at2:Nat),v=iV z/\at2<=e.length/\(-9223372036854775808<=z/\z<=9223372036854775807)/\Own w' a 69 [.slice A e.length i,nV at2]):=by
 have d:UpM [a] w h w h:=UpM.refl g;obtain ⟨wz,u,b⟩:=SS.at_ g D C;replace b:=b.aS x;refine go Tryz.func40 [(0,pB a)] rfl (aa b ac (af (cQ (cR 10 [] mixed b aq ?_))));refine eV 0 3 (pB a) (eV 1 4 (pB a) (eV 2 5 (qP a 1) (eO 3 6 [(0,1,1)] (nV at_) b (eV 4 7 (pB a) (eV 5 8 (pB a) (eV 6 9 (pB a) (eO 7 10 [(0,0,1)] (qS A e.length i) b (eV 8 11 (nV e.length) ?_))))))));cases j:(decide ((e.length:Int)<=(at_:Int)))
 .
  have l:=oF j;refine eB 9 12 j (js b (fun w2 K y b=>?_));replace d:=d.trans (y.m _);refine tN (cW (cK (aa b [.c,.v (pB a),.v (qP a 1),.o (nV at_) 0 1 1] (bI 17 ((at_:Nat)+1) (at_+1) ?_))));refine lL b [.v (pB a),.v (qP a 1)] (np 0 1 ([nV (at_+1)]) b (fun I B b=>?_));replace d:=d.put B (ov.2 rfl) b.g;refine af (cR 11 [] mixed b aq ?_);refine eV 0 20 (pB a) (eV 1 21 (pB a) (eV 2 22 (pB a) (eO 3 23 [(0,0,1)] (qS A e.length i) b (eV 4 24 (pB a) (eV 5 25 (pB a) (eV 6 26 (qP a 1) (eO 7 27 [(0,1,1)] (nV (at_+1)) b (mt 8 28 ((at_+1:Nat)-1) ((at_+1)-1) (eX 9 29 A e.length i 1 ((at_+1)-1:Nat) ((at_+1)-1) ((b.f.1).ok oM) (eH 10 30 (iV (e.getD ((at_+1)-1) 0)) b ((b.f.1).el ((at_+1)-1) oM) (js b (fun H L F b=>?_))))))))))));replace d:=d.trans (F.m _);exact tV 11 2 (iV (e.getD ((at_+1)-1) 0)) (tN (kX (b.retM d [] (iV (e.getD ((at_+1)-1) 0)) ⟨e.getD ((at_+1)-1) 0,(at_+1),rfl,by omega,hz _,b.own 0⟩)))
 have l:=oT j;refine eB 9 12 j (js b (fun J _ p b=>?_));replace d:=d.trans (p.m _);exact tN (cl (aa b ac (lN (kX (b.retM d [] (iV 0) ⟨0,at_,rfl,by omega,⟨by decide,by decide⟩,b.own 0⟩)))))
structure LayFit (L:Lay):Prop where
  rl:L.W.length<=1000000
  rls:∀ i,i<L.W.length->(L.W.getD i []).length<=1000000
  rf:∀ i,i<L.W.length->∀ j,j<(L.W.getD i []).length->LQ 100000000 ((L.W.getD i []).getD j 0)
  bl:L.B.length<=1000000
  bf:∀ i,i<L.B.length->LQ 100000000 (L.B.getD i 0)
structure Stp where
  op:Int
  a:Int
  b:Int
  n:Int
  q:Rat
abbrev sX (p:Stp):Value:=.agg #[iV p.op,iV p.a,iV p.b,iV p.n,.bool (aw p.q.num),uV (lo (ab p.q.num)),.string (hi (ab p.q.num)),uV (lo (qd p.q)),.string (hi (qd p.q))]
abbrev sC (p:Stp):List Value:=[iV p.op,iV p.a,iV p.b,iV p.n,.bool (aw p.q.num),uV (lo (ab p.q.num)),.string (hi (ab p.q.num)),uV (lo (qd p.q)),.string (hi (qd p.q))]
abbrev sW (o a b n:Int)(q:Rat):Value:=.agg #[iV o,iV a,iV b,iV n,.bool (aw q.num),uV (lo (ab q.num)),.string (hi (ab q.num)),uV (lo (qd q)),.string (hi (qd q))]
abbrev sG (o a b n:Int)(q:Rat):List Value:=[iV o,iV a,iV b,iV n,.bool (aw q.num),uV (lo (ab q.num)),.string (hi (ab q.num)),uV (lo (qd q)),.string (hi (qd q))]
def d9:Stp:=⟨0,0,0,0,0⟩
abbrev gP (l:List Stp)(k:Nat):Stp:=l.getD k d9
def dU (op:Int):Int :=
  if op=1\/op=2 then 0 else if op=7\/op=8\/op=9\/op=10\/op=11 then 1
  else if op=3\/op=4\/op=5\/op=6\/op=12\/op=13 then 2 else -1
theorem az (op:Int):(dU op=0/\(op=1\/op=2))\/(dU op=1/\(op=7\/op=8\/op=9\/op=10\/op=11))\/(dU op=2/\(op=3\/op=4\/op=5\/op=6\/op=12\/op=13))\/(dU op = -1/\(op<1\/13<op)):=by
 unfold dU;split
 ·exact .inl ⟨rfl,by assumption⟩
 ·split
  ·exact .inr (.inl ⟨rfl,by assumption⟩)
  ·split
   ·exact .inr (.inr (.inl ⟨rfl,by assumption⟩))
   ·exact .inr (.inr (.inr ⟨rfl,by omega⟩))
def nS (i:Nat)(tt:Int)(used:Prop):Prop:=(used->0<=tt/\tt<i)/\(¬used->tt=0)
def nE (inp:Int)(i:Nat)(s:Stp):Prop :=
  0<=dU s.op/\nS i s.a (0<dU s.op)/\nS i s.b (1<dU s.op)/\(s.op≠1->s.q.num=0) /\
  (s.op=2->0<=s.n/\s.n<inp)/\(s.op=8 -> -12<=s.n/\s.n<=12)/\(s.op≠2->s.op≠8->s.n=0)
instance (i:Nat) (tt:Int) (u:Prop) [Decidable u]:Decidable (nS i tt u):=by unfold nS;infer_instance
instance (inp:Int) (i:Nat) (s:Stp):Decidable (nE inp i s):=by unfold nE;infer_instance
def uK (n:Nat)(os:List Int):Prop:=∀ i,i<os.length->0<=os.getD i 0/\os.getD i 0<n
instance (n:Nat) (os:List Int):Decidable (uK n os):=by unfold uK;infer_instance
structure RSt where
  op:Int
  a:Int
  b:Int
  n:Int
  t:RT
def HP:RSt:=⟨0,0,0,0,DR⟩
structure OSt where
  op:Int
  a:Int
  b:Int
  n:Int
  q:Rat
  has:Bool
def EQ:OSt:=⟨0,0,0,0,0,false⟩
def Ju (o:OSt):Nat:=if o.has then o.q.den else 0
def OSt.stp (o:OSt):Stp:=⟨o.op,o.a,o.b,o.n,o.q⟩
abbrev gO (s:List OSt)(k:Nat):OSt:=s.getD k EQ
abbrev mO (s:List OSt):List Stp:=s.map OSt.stp
structure RS1 (h:Hp) (t:RSt) (o:OSt):Prop where
  op:t.op=o.op
  a:t.a=o.a
  b:t.b=o.b
  n:t.n=o.n
  q:RP h (Hc t.t) o.q.num (Ju o)
  z:o.has=false->o.q=0
structure RSs (h:Hp) (ts:List RSt) (os:List OSt):Prop where
  len:ts.length=os.length
  at_:∀ i,i<os.length->RS1 h (ts.getD i HP) (os.getD i EQ)
structure OSm (o:OSt):Prop where
  op : -1000<=o.op/\o.op<=1000
  a : -1000<=o.a/\o.a<=1000
  b : -1000<=o.b/\o.b<=1000
  n : -1000<=o.n/\o.n<=1000
  q:LQ 1 o.q
def H5 (os:List OSt):Prop:=∀ i,i<os.length->OSm (os.getD i EQ)
structure LayLen (L:Lay):Prop where
  rl:L.W.length<=1000000
  rls:∀ i,i<L.W.length->(L.W.getD i []).length<=1000000
  bl:L.B.length<=1000000
structure Mat (W:List (List Rat)) (r c:Nat):Prop where
  rows:W.length=r
  rpos:0<r
  cpos:0<c
  row:∀ i,i<r->(W.getD i []).length=c
structure Net3 (ls:List Lay) (d:Nat->Nat):Prop where
  len:1<=ls.length/\ls.length<=4
  first:d 0<=20
  lay:∀ i,i<ls.length->Mat (ls.getD i iG).W (d (i+1)) (d i)/\(ls.getD i iG).B.length=d (i+1)/\d (i+1)<=12/\((ls.getD i iG).k=1\/(ls.getD i iG).k=2\/(ls.getD i iG).k=3)
theorem px (u:Rat):0<((1:Int):Rat)+a8 u:=by
 have h:(0:Rat)<=a8 u:=by rw[<-KG,mc];omega
 have h1:(0:Rat)<((1:Int):Rat):=by decide
 grind
theorem qw (u:Rat):(((1:Int):Rat)+a8 u).num≠0:=by
 have:=px u;intro e;have e2:((1:Int):Rat)+a8 u=0:=by rw[<-KH];exact e
 rw[e2] at this;exact absurd this kD
def JF (k:Int)(u:Rat):Rat:=if k=2 then maxR u 0 else if k=3 then u/(((1:Int):Rat)+a8 u) else u
def Ii (L:Lay)(x:List Rat):List Rat:=(hO L.W.length).map fun i=>JF L.k (E7 (L.W.getD i []) x x.length+L.B.getD i 0)
def AI (ls:List Lay)(xs:List Rat):Nat->List Rat
  | 0=>xs
  | k+1=>Ii (ls.getD k iG) (AI ls xs k)
abbrev gD (ls:List Lay)(xs:List Rat)(k r:Nat):Rat:=E7 ((ls.getD k iG).W.getD r []) (AI ls xs k) (AI ls xs k).length
abbrev gS (ls:List Lay)(xs:List Rat)(k r:Nat):Rat:=gD ls xs k r+((ls.getD k iG).B).getD r 0
structure NetB (ls:List Lay) (xs:List Rat):Prop where
  w:∀ k i j,LQ 1000000 (((ls.getD k iG).W.getD i []).getD j 0)
  b:∀ k i,LQ 1000000 ((ls.getD k iG).B.getD i 0)
  x:∀ k,k<=ls.length->∀ j,LQ 1000000 ((AI ls xs k).getD j 0)
theorem ve {n:Nat}:∀ j,(yp n (0:Rat)).getD j 0=0:=fun j=>by
 rw[zY,List.getElem?_replicate];split<;>rfl
structure LaySz (L:Lay):Prop where
  rl:L.W.length<=8
  rls:∀ i,(L.W.getD i []).length<=8
  bl:L.B.length<=8
  w:∀ i j,LQ 1 ((L.W.getD i []).getD j 0)
  b:∀ i,LQ 1 (L.B.getD i 0)
  b4:L.B.length<=4
  w4:(L.W.getD 0 []).length<=4
theorem im {k:Nat}(h:1<=k):LQ k 0:=(LQ.lit (z:=0) kD).mono h
theorem eh {α:Type}{l:List α}{n i:Nat}{d x:α}(h:n<l.length):(l.set n x).getD i d=if i=n then x else l.getD i d:=by
 split
 ·rename_i e;subst e;simp[h]
 ·rename_i e;rw[zY,List.getElem?_set_ne (Ne.symm e),<-zY]
structure LayS4 (L:Lay):Prop where
  rl:L.W.length<=4
  rls:∀ i,(L.W.getD i []).length<=4
  bl:L.B.length<=4
  w:∀ i j,LQ 1 ((L.W.getD i []).getD j 0)
  b:∀ i,LQ 1 (L.B.getD i 0)
theorem dq {α:Type}{l:List α}{i:Nat}{d:α}(h:l.length<=i):l.getD i d=d:=by rw[zY,pe h];rfl
def bL (a:Rat):Nat->Rat
  | 0=>((1:Int):Rat)
  | k+1=>bL a k*a
theorem ku {a:Rat}(h:a≠0):∀ k,bL a k≠0
 | 0=>by show ((1:Int):Rat)≠0;decide
 | k+1=>by show bL a k*a≠0;have:=ku h k;grind
theorem tE {k:Nat}(h:0<k):bL 0 k=0:=by
 obtain ⟨j,rfl⟩:∃ j,k=j+1:=⟨k-1,by omega⟩
 show bL 0 j*0=0;rw[Rat.mul_zero]
def dm (a:Rat)(n:Int):Rat:=if 0<=n then bL a n.natAbs else ((1:Int):Rat)/bL a n.natAbs
def mh (a b:Rat):Rat:=if b<a then b else a
def gh (op n:Int)(q a b:Rat):Rat :=
  if op=1 then q else if op=3 then a+b else if op=4 then a-b else if op=5 then a*b else if op=6 then a/b else if op=7 then -a
  else if op=8 then dm a n else if op=9 then a8 a else if op=10 then maxR a 0 else if op=11 then a/(a8 a+((1:Int):Rat)) else if op=12 then maxR a b else mh a b
def ke (op n:Int)(a b:Rat):Prop:=(op=6->b≠0)/\(op=8->n<0->a≠0)
instance (op n:Int) (a b:Rat):Decidable (ke op n a b):=by unfold ke;infer_instance
def Gg (op:Int)(a b:Rat):Prop:=(op=9\/op=10)/\a=0\/(op=12\/op=13)/\a=b
instance (op:Int) (a b:Rat):Decidable (Gg op a b):=by unfold Gg;infer_instance
def Dh (op n:Int)(a b:Rat):Rat :=
  if op=3 then ((1:Int):Rat) else if op=4 then ((1:Int):Rat) else if op=5 then b else if op=6 then ((1:Int):Rat)/b else if op=7 then -((1:Int):Rat)
  else if op=8 then (if n=0 then 0 else dm a (n-1)*((n:Int):Rat)) else if op=9 then ((a.num.sign:Int):Rat) else if op=10 then ((max a.num.sign 0:Int):Rat)
  else if op=11 then (((1:Int):Rat)/(((1:Int):Rat)+a8 a))*(((1:Int):Rat)/(((1:Int):Rat)+a8 a))
  else if op=12 then (if b<a then ((1:Int):Rat) else 0) else if op=13 then (if b<a then 0 else ((1:Int):Rat)) else 0
def Df (op:Int)(a b:Rat):Rat :=
  if op=3 then ((1:Int):Rat) else if op=4 then -((1:Int):Rat) else if op=5 then a else if op=6 then -(a*(((1:Int):Rat)/b)*(((1:Int):Rat)/b))
  else if op=12 then (if b<a then 0 else ((1:Int):Rat)) else if op=13 then (if b<a then ((1:Int):Rat) else 0) else 0
theorem kl (z:Int) : -1<=z.sign/\z.sign<=1:=by
 rcases Ke z 0 with h|h|h
 ·rw[JW h];decide
 ·rw[h];decide
 ·rw[JX h];decide
theorem uz {a:Rat}(h:a≠0):a.num≠0:=fun e=>h (by rw[<-KH];exact e)
theorem gC {a:Rat}{K:Nat}(h:LQ K a):∀ k,LQ (k*K+1) (bL a k)
 | 0=>LQ.mono (k:=1) (LQ.lit (z:=1) kD) oM
 | k+1=>((gC h k).mul h).mono (by rw[Nat.add_mul];omega)
theorem Dr (a b:Rat)(hb:b=0)(w:World)(h:Hp)(g:G w h):CV 99 #[qv a,qv b] w h (.tuple #[qv 0,.bool false]):=by
 subst hb;exact GI a (im oM) w h g
theorem qo (u:Rat):(a8 u+((1:Int):Rat)).num≠0:=by rw[KI];exact qw u
theorem gi {a b:Rat}:dV a b=0↔a=b:=by
 constructor
 ·intro h
  have h1:¬a<b:=fun x=>by have:=iq.2 x;omega
  have c:¬b<a:=fun x=>by have:=iw.2 x;omega
  grind
 ·intro h;subst h
  have h1:¬dV a a<0:=fun x=>by have:=iq.1 x;grind
  have c:¬dV a a>0:=fun x=>by have:=iw.1 x;grind
  omega
theorem Ig (a b:Rat)(ha:LQ 100000000 a)(hb:LQ 100000000 b)(w:World)(h:Hp)(g:G w h):CV 104 #[qv a,qv b] w h (qv (mh a b)):=by
 have c:=sS g;refine go Tryz.func104 [(0,qv a),(1,qv b)] rfl (aD (lA 2 29 (qc a) c (fun j w2 u c=>lA 3 29 (qc b) c (fun p l z c=>lA 4 29 a1 c (fun x i y c=>af (aa c [.o (qv b) 1 0 5,.o (qv a) 2 0 5] (am 7 c (tJ b a (LQ.mono hb oM) (LQ.mono ha oM) _ _ c.g) (fun _ _ c=>?_))))))));cases d:(decide ((dV b a:Int)<(0:Int)))
 .
  have f:=oF d;exact lB 8 d (ah (cK (aa c [.o (qv a) 2 0 5] (lP 0 0 (qc a) c (fun _ c=>ae c [(0,0,5)] (qv a) (by unfold mh;rw[if_neg (fun e=>by have:=iq.2 e;omega)]))))))
 have f:=oT d;exact lB 8 d (au (aa c [.o (qv b) 1 0 5] (lP 0 0 (qc b) c (fun _ c=>ae c [(0,0,5)] (qv b) (by unfold mh;rw[if_pos (iq.1 oM)])))))
def jB (op n:Int)(q a b:Rat):Rat:=if ke op n a b then gh op n q a b else 0
theorem jn {a b:List Rat}(h:a.length=b.length)(hv:∀ j,a.getD j 0=b.getD j 0):a=b:=by
 refine List.ext_getElem h (fun i h1 c=>?_);have:=hv i
 simpa [h1,c] using this
theorem Ic {p:Prop}[Decidable p](h:(!decide p)=false):p:=by simpa using h
theorem IY {p:Prop}[Decidable p](h:(!decide p)=true):¬p:=by simpa using h
theorem n4 {a:Rat}:0<a.num.sign↔0<a:=by
 rw[Rat.lt_iff]
 rcases Ke a.num 0 with h|h|h
 ·rw[JW h];simp;omega
 ·rw[h];simp
 ·rw[JX h];simpa using h
section ro
variable {w0:World}{h0:Hp}{w:World}{h:Hp}{B:List Bx}{R:List Rw}{F:List (Hp->Prop)}
theorem SS.ro_jk (s:SS w0 h0 w h B R F)(j:Nat){ty:TypeId}{sz c m:Nat}{A:Z9}{cs:List Value}(hr:R.getD j default=⟨ty,sz,A,c,m,cs⟩:=by kernel_rfl)(d:decide (j<R.length)=true:=by kernel_rfl):∀ b∈(Value.slice A m c).ownBlock.toList,h[b]?=some bj:=fun b hb=>by
 have a:=oT d;have r:=s.ro _ (fu a);rw[l8 hr a] at r
 exact r.jk b (KJ.1 hb)
theorem SS.ro_lt (s:SS w0 h0 w h B R F)(j:Nat){ty:TypeId}{sz c m:Nat}{A:Z9}{cs:List Value}(hr:R.getD j default=⟨ty,sz,A,c,m,cs⟩:=by kernel_rfl)(d:decide (j<R.length)=true:=by kernel_rfl):∀ b∈(Value.slice A m c).ownBlock.toList,b<h.size:=fun b hb=>by
 have a:=oT d;have r:=s.ro _ (fu a);rw[l8 hr a] at r
 exact aJ (r.jk b (KJ.1 hb))
theorem SS.ro_ne (s:SS w0 h0 w h B R F)(q j:Nat){ty:TypeId}{sz c m:Nat}{A:Z9}{cs:List Value}(d:decide (q<B.length)=true:=by kernel_rfl)(hr:R.getD j default=⟨ty,sz,A,c,m,cs⟩:=by kernel_rfl)(e:decide (j<R.length)=true:=by kernel_rfl):(ax B q).b ∉ (Value.slice A m c).ownBlock.toList:=fun hb=>by
 have a:=oT e;have r:=s.ro _ (fu a);rw[l8 hr a] at r
 exact r.ap _ (KJ.1 hb) (gs.2 ⟨_,bu (oT d),rfl⟩)
end ro
def co (op n:Int)(a b:Rat):Int:=if ke op n a b then (if Gg op a b then 7 else 0) else 6
theorem i1:((1:Int):Rat)=1:=rfl
theorem i0:((0:Int):Rat)=0:=rfl
theorem CK:((-1:Int):Rat) = -1:=rfl
theorem Fh {f:Nat->Rat}{K m:Nat}(a:1<=K)(h:∀ i,LQ K (f i))(j:Nat):LQ K (((hO m).map f).getD j 0):=by
 by_cases hj:j<m
 ·simp[hj];exact h j
 ·simp[hj];exact im a
def Jd (z:Nat)(l:List Stp):Prop:=∀ k,k<l.length->(l.getD k d9).op=8->(k=z -> -12<=(l.getD k d9).n/\(l.getD k d9).n<=12)/\(k≠z -> -1<=(l.getD k d9).n/\(l.getD k d9).n<=2)
def d6 (n j:Nat):List Rat:=(yp n (0:Rat)).set j ((1:Int):Rat)
theorem vH {α:Type}{l:List α}{i:Nat}{d:α}(h:i<l.length):l.getD i d∈l:=by
 rw[zY,List.getElem?_eq_getElem h];exact fu h
theorem uh {α:Type}{l:List α}{i:Nat}{d:α}(h:l.length<=i):l.getD i d=d:=by
 rw[zY,pe h];rfl
def eF (s:ByteArray):List Value:=[.string s]
inductive Tm where
  | mk (op n:Int) (q:Rat) (s:ByteArray) (ks:List Tm)
def Tm.op:Tm->Int|.mk op _ _ _ _=>op
def Tm.n:Tm->Int|.mk _ n _ _ _=>n
def Tm.q:Tm->Rat|.mk _ _ q _ _=>q
def Tm.s:Tm->ByteArray|.mk _ _ _ s _=>s
def Tm.ks:Tm->List Tm|.mk _ _ _ _ ks=>ks
def ct:Tm:=.mk 0 0 0 ⟨#[]⟩ []
structure PTm where
  op:Int
  n:Int
  q:Rat
  s:ByteArray
  A:Z9
  m:Nat
  c:Nat
abbrev pX (p:PTm):Value:=.agg #[iV p.op,iV p.n,.bool (aw p.q.num),uV (lo (ab p.q.num)),.string (hi (ab p.q.num)),uV (lo (qd p.q)),.string (hi (qd p.q)),.string p.s,.slice p.A p.m p.c]
abbrev pC (p:PTm):List Value:=[iV p.op,iV p.n,.bool (aw p.q.num),uV (lo (ab p.q.num)),.string (hi (ab p.q.num)),uV (lo (qd p.q)),.string (hi (qd p.q)),.string p.s,.slice p.A p.m p.c]
abbrev pW (o n:Int)(q:Rat)(s:ByteArray)(A:Z9)(m c:Nat):Value:=.agg #[iV o,iV n,.bool (aw q.num),uV (lo (ab q.num)),.string (hi (ab q.num)),uV (lo (qd q)),.string (hi (qd q)),.string s,.slice A m c]
abbrev pG (o n:Int)(q:Rat)(s:ByteArray)(A:Z9)(m c:Nat):List Value:=[iV o,iV n,.bool (aw q.num),uV (lo (ab q.num)),.string (hi (ab q.num)),uV (lo (qd q)),.string (hi (qd q)),.string s,.slice A m c]
def aE:PTm:=⟨0,0,0,⟨#[]⟩,none,0,0⟩
def aI (p:PTm):List Value:=[.int .i64 p.op,.int .i64 p.n,.bool (aw p.q.num),.int .u64 (lo (ab p.q.num)),.string (hi (ab p.q.num)),.int .u64 (lo (qd p.q)),.string (hi (qd p.q)),.string p.s,.slice p.A p.m p.c]
def ar (p:PTm):Value:=.agg #[.int .i64 p.op,.int .i64 p.n,.bool (aw p.q.num),.int .u64 (lo (ab p.q.num)),.string (hi (ab p.q.num)),.int .u64 (lo (qd p.q)),.string (hi (qd p.q)),.string p.s,.slice p.A p.m p.c]
def TmH:Nat->Hp->PTm->Tm->Prop
  | 0,_,_,_=>False
  | d+1,h,p,t=>p.op=t.op/\p.n=t.n/\p.q=t.q/\p.s=t.s/\p.m=t.ks.length/\p.m<=p.c/\∃ ps:List PTm,ps.length=t.ks.length/\SlO 9 aI aE h p.A ps/\∀ i,i<t.ks.length->TmH d h (ps.getD i aE) (t.ks.getD i ct)
theorem TmH.gw:∀ {d:Nat} {h a:Hp} {p:PTm} {t:Tm},TmH d h p t->Gw h a->TmH d a p t
 | 0,_,_,_,_,x,_=>x
 | d+1,_,_,_,_,⟨h1,h2,h3,h4,h5,h6,ps,h7,h8,h9⟩,u=>⟨h1,h2,h3,h4,h5,h6,ps,h7,h8.gw u,fun i hi=>TmH.gw (h9 i hi) u⟩
theorem TmH.mono {h:Hp}:∀ {d e:Nat} {p:PTm} {t:Tm},TmH d h p t->d<=e->TmH e h p t
 | d+1,e+1,_,_,⟨h1,h2,h3,h4,h5,h6,ps,h7,h8,h9⟩,u=>⟨h1,h2,h3,h4,h5,h6,ps,h7,h8,fun i hi=>TmH.mono (h9 i hi) oM⟩
structure RTm where
  op:Int
  n:Int
  neg:Bool
  zA:Z9
  zn:Nat
  zc:Nat
  dA:Z9
  dn:Nat
  dc:Nat
  s:ByteArray
  A:Z9
  m:Nat
  c:Nat
def RTm.t (r:RTm):RT:=(r.neg,.slice r.zA r.zn r.zc,.slice r.dA r.dn r.dc)
def gZ:RTm:=⟨0,0,false,none,0,0,none,0,0,⟨#[]⟩,none,0,0⟩
def dE (r:RTm):List Value:=[.int .i64 r.op,.int .i64 r.n,.bool r.neg,.slice r.zA r.zn r.zc,.slice r.dA r.dn r.dc,.string r.s,.slice r.A r.m r.c]
def d8 (r:RTm):Value:=.agg #[.int .i64 r.op,.int .i64 r.n,.bool r.neg,.slice r.zA r.zn r.zc,.slice r.dA r.dn r.dc,.string r.s,.slice r.A r.m r.c]
def RZ (h:Hp)(t:RT)(q:Rat):Prop:=∃ has:Bool,RP h (Hc t) q.num (if has then q.den else 0)/\(has=false->q=0)
theorem RZ.gw {h a:Hp}{t:RT}{q:Rat}(x:RZ h t q)(u:Gw h a):RZ a t q:=by
 obtain ⟨b,h1,c⟩:=x;exact ⟨b,h1.gw u,c⟩
def RmH:Nat->Hp->RTm->Tm->Prop
  | 0,_,_,_=>False
  | d+1,h,r,t=>r.op=t.op/\r.n=t.n/\RZ h r.t t.q/\r.s=t.s/\r.m=t.ks.length/\r.m<=r.c/\∃ rs:List RTm,rs.length=t.ks.length/\SlO 7 dE gZ h r.A rs/\∀ i,i<t.ks.length->RmH d h (rs.getD i gZ) (t.ks.getD i ct)
theorem EJ {h:Hp}{b:Bool}{j l:Z9}{o y f u:Nat}{q:Rat}(x:RZ h (b,.slice j o y,.slice l f u) q)(p:0<f):RP h (.agg #[.bool b,.slice j o y,.slice l f u]) q.num q.den:=by
 obtain ⟨z,h1,F⟩:=x;cases z
 ·obtain ⟨A,c,D,d,e,C,I,B,H⟩:=h1
  injection e with e
  have i:=congrArg (fun a:Array Value=>a.toList) e
  simp at i
  have:f=(lim 0).length:=i.2.2.2.1;have h0:(lim 0).length=0:=by have:=@dN 0;omega
  omega
 ·exact h1
theorem G2 {h:Hp}{b:Bool}{i j:Z9}{l y p:Nat}{q:Rat}(x:RZ h (b,.slice i l y,.slice j 0 p) q):q=0:=by
 obtain ⟨u,h1,o⟩:=x;cases u
 ·exact o rfl
 ·obtain ⟨A,c,D,d,e,B,I,z,C⟩:=h1
  injection e with e
  have f:=congrArg (fun a:Array Value=>a.toList) e
  simp at f
  have F:0=(lim q.den).length:=f.2.2.2.1;have H:=(@dN q.den).2 q.den_pos
  omega
theorem RmH.gw:∀ {d:Nat} {h a:Hp} {r:RTm} {t:Tm},RmH d h r t->Gw h a->RmH d a r t
 | 0,_,_,_,_,x,_=>x
 | d+1,_,_,_,_,⟨h1,h2,h3,h4,h5,h6,ps,h7,h8,h9⟩,u=>⟨h1,h2,h3.gw u,h4,h5,h6,ps,h7,h8.gw u,fun i hi=>RmH.gw (h9 i hi) u⟩
structure Tms (d:Nat) (h:Hp) (ps:List PTm) (ts:List Tm):Prop where
  len:ps.length=ts.length
  at_:∀ i,i<ts.length->TmH d h (ps.getD i aE) (ts.getD i ct)
theorem Tms.gw {d:Nat}{h b:Hp}{ps:List PTm}{a:List Tm}(x:Tms d h ps a)(u:Gw h b):Tms d b ps a:=⟨x.len,fun i hi=>(x.at_ i hi).gw u⟩
structure Rms (d:Nat) (h:Hp) (rs:List RTm) (ts:List Tm):Prop where
  len:rs.length=ts.length
  at_:∀ i,i<ts.length->RmH d h (rs.getD i gZ) (ts.getD i ct)
theorem Rms.gw {d:Nat}{h c:Hp}{b:List RTm}{a:List Tm}(x:Rms d h b a)(u:Gw h c):Rms d c b a:=⟨x.len,fun i hi=>(x.at_ i hi).gw u⟩
theorem Rms.snoc {d:Nat}{h:Hp}{b:List RTm}{a:List Tm}{r:RTm}{t:Tm}(x:Rms d h b a)(y:RmH d h r t):Rms d h (b++[r]) (a++[t]):=by
 refine ⟨by simp[x.len],fun i hi=>?_⟩;rw[yh,KK] at hi
 rw[ei,ei,x.len]
 by_cases e:i<a.length
 ·rw[if_pos e,if_pos e];exact x.at_ i e
 ·rw[if_neg e,if_neg e,if_pos oM,if_pos oM];exact y
theorem Tms.nil {d:Nat}{h:Hp}:Tms d h [] []:=⟨rfl,fun i hi=>by simp at hi⟩
theorem Tms.snoc {d:Nat}{h:Hp}{b:List PTm}{a:List Tm}{r:PTm}{t:Tm}(x:Tms d h b a)(y:TmH d h r t):Tms d h (b++[r]) (a++[t]):=by
 refine ⟨by simp[x.len],fun i hi=>?_⟩;rw[yh,KK] at hi
 rw[ei,ei,x.len]
 by_cases e:i<a.length
 ·rw[if_pos e,if_pos e];exact x.at_ i e
 ·rw[if_neg e,if_neg e,if_pos oM,if_pos oM];exact y
theorem TmH.mk {d:Nat}{h:Hp}{op n:Int}{q:Rat}{s:ByteArray}{A:Z9}{c:Nat}{ps:List PTm}{ks:List Tm}(x:Tms d h ps ks)(b:ps.length<=c)(a:SlO 9 aI aE h A ps):TmH (d+1) h ⟨op,n,q,s,A,ps.length,c⟩ (.mk op n q s ks) :=
 ⟨rfl,rfl,rfl,rfl,x.len,b,ps,x.len,a,x.at_⟩
theorem TmH.open {d:Nat}{h:Hp}{p:PTm}{t:Tm}(x:TmH (d+1) h p t):∃ op n q s A c,∃ ps:List PTm,∃ ks:List Tm,p=⟨op,n,q,s,A,ps.length,c⟩/\t=.mk op n q s ks/\ps.length<=c/\SlO 9 aI aE h A ps/\Tms d h ps ks:=by
  obtain ⟨op,n,q,s,A,m,c⟩:=p;cases t with
  | mk rN n2 q2 s2 ks =>
    obtain ⟨h1,e,f,l,j,o,ps,a,b,i⟩:=x;obtain rfl:op=rN:=h1;obtain rfl:n=n2:=e;obtain rfl:q=q2:=f;obtain rfl:s=s2:=l;obtain rfl:m=ps.length:=(show m=ks.length from j).trans a.symm;exact ⟨op,n,q,s,A,c,ps,ks,rfl,rfl,o,b,a,i⟩
theorem RmH.open {d:Nat}{h:Hp}{p:RTm}{t:Tm}(x:RmH (d+1) h p t):∃ op n b e i l f a j q s A c,∃ ps:List RTm,∃ ks:List Tm,p=⟨op,n,b,e,i,l,f,a,j,s,A,ps.length,c⟩/\t=.mk op n q s ks/\RZ h (b,.slice e i l,.slice f a j) q/\ps.length<=c/\SlO 7 dE gZ h A ps/\Rms d h ps ks:=by
  obtain ⟨op,n,b,e,i,l,f,a,j,s,A,m,c⟩:=p;cases t with
  | mk rN n2 q2 s2 ks =>
    obtain ⟨h1,y,z,D,C,F,ps,o,u,B⟩:=x;obtain rfl:op=rN:=h1;obtain rfl:n=n2:=y;obtain rfl:s=s2:=D;obtain rfl:m=ps.length:=(show m=ks.length from C).trans o.symm;exact ⟨op,n,b,e,i,l,f,a,j,q2,s,A,c,ps,ks,rfl,rfl,z,F,u,o,B⟩
def ew (f:Nat->Nat):Nat->Nat
  | 0=>0
  | k+1=>ew f k+f k
def aG (n:Int):Nat:=if n.natAbs<=1 then 1 else n.natAbs
def ba:Nat->Tm->Nat
  | 0,_=>0
  | d+1,t=>if t.ks.length=0 then 1 else (if t.op=11 then 2 else if t.op=8 then aG t.n else 1)*ew (fun i=>ba d (t.ks.getD i ct)) t.ks.length
def WfT (ok:ByteArray->Prop):Nat->Tm->Prop
  | 0,_=>False
  | d+1,t=>dU t.op=t.ks.length/\(t.op≠1->t.q=0)/\LQ 3000 t.q/\(t.op=2->ok t.s)/\(t.op≠2->t.s=⟨#[]⟩)/\(t.op≠8->t.n=0) /\ -12<=t.n/\t.n<=12/\∀ i,i<t.ks.length->WfT ok d (t.ks.getD i ct)
def rB (sm:ByteArray->Prop):Nat->Tm->Prop
  | 0,_=>False
  | d+1,t=>t.ks.length<=3/\(-1000<=t.op/\t.op<=1000)/\(-1000<=t.n/\t.n<=1000)/\LQ 3000 t.q/\sm t.s/\∀ i,i<t.ks.length->rB sm d (t.ks.getD i ct)
theorem WfT.sm {ok sm:ByteArray->Prop}(h:∀ s,ok s->sm s)(h0:sm ⟨#[]⟩):∀ {d:Nat} {t:Tm},WfT ok d t->rB sm d t
  | d+1,t,⟨h1,h2,h3,h4,h5,h6,h7,h8,h9⟩=>by
    have a:=az t.op;refine ⟨by omega,⟨by omega,by omega⟩,⟨by omega,by omega⟩,h3,?_,fun i hi=>WfT.sm h h0 (h9 i hi)⟩
    by_cases e:t.op=2
    . exact h _ (h4 e)
    . rw[h5 e];exact h0
def WfT1 (ok:ByteArray->Prop):Nat->Tm->Prop
  | 0,_=>False
  | d+1,t=>dU t.op=t.ks.length/\(t.op≠1->t.q=0)/\LQ 1 t.q/\(t.op=2->ok t.s)/\(t.op≠2->t.s=⟨#[]⟩)/\(t.op≠8->t.n=0) /\ -12<=t.n/\t.n<=12/\∀ i,i<t.ks.length->WfT1 ok d (t.ks.getD i ct)
theorem WfT1.wf {ok:ByteArray->Prop}:∀ {d:Nat} {t:Tm},WfT1 ok d t->WfT ok d t
 | _+1,_,⟨h1,h2,h3,h4,h5,h6,h7,h8,h9⟩=>⟨h1,h2,h3.mono kD,h4,h5,h6,h7,h8,fun i hi=>WfT1.wf (h9 i hi)⟩
def SmT1 (sm:ByteArray->Prop):Nat->Tm->Prop
  | 0,_=>False
  | d+1,t=>t.ks.length<=3/\(-1000<=t.op/\t.op<=1000)/\(-1000<=t.n/\t.n<=1000)/\LQ 1 t.q/\sm t.s/\∀ i,i<t.ks.length->SmT1 sm d (t.ks.getD i ct)
theorem SmT1.sm {sm:ByteArray->Prop}:∀ {d:Nat} {t:Tm},SmT1 sm d t->rB sm d t
 | _+1,_,⟨h1,h2,h3,h4,h5,h6⟩=>⟨h1,h2,h3,h4.mono kD,h5,fun i hi=>SmT1.sm (h6 i hi)⟩
theorem WfT1.sm {ok sm:ByteArray->Prop}(h:∀ s,ok s->sm s)(h0:sm ⟨#[]⟩):∀ {d:Nat} {t:Tm},WfT1 ok d t->SmT1 sm d t
  | d+1,t,⟨h1,h2,h3,h4,h5,h6,h7,h8,h9⟩=>by
    have a:=az t.op;refine ⟨by omega,⟨by omega,by omega⟩,⟨by omega,by omega⟩,h3,?_,fun i hi=>WfT1.sm h h0 (h9 i hi)⟩
    by_cases e:t.op=2
    . exact h _ (h4 e)
    . rw[h5 e];exact h0
def Is (isb:ByteArray->Bool)(op n:Int)(q:Rat)(s:ByteArray)(m:Nat):Prop:=dU op=m/\(op=1\/q.num=0)/\((op=2->isb s=true)/\(op≠2->s=⟨#[]⟩))/\((op=8\/n=0) /\ -12<=n/\n<=12)
section
variable {isb:ByteArray->Bool}{d:Nat}{op n:Int}{q:Rat}{s:ByteArray}{ks:List Tm}
theorem Ba (w:WfT (fun s=>isb s=true) (d+1) (.mk op n q s ks)):Is isb op n q s ks.length:=by
 obtain ⟨h1,f,l,b,a,c,i,h,j⟩:=w;refine ⟨h1,?_,⟨b,a⟩,?_,i,h⟩
 ·by_cases e:op=1
  ·exact .inl e
  ·exact .inr (KH.2 (f e))
 ·by_cases e:op=8
  ·exact .inl e
  ·exact .inr (c e)
theorem r5 (h:¬Is isb op n q s ks.length):∃ a,Value.bool false=.bool a/\(a=true↔WfT (fun s=>isb s=true) (d+1) (.mk op n q s ks)):=⟨false,rfl,fun b=>(by cases b),fun w=>absurd (Ba w) h⟩
theorem FZ {k:Nat}(hk:k<ks.length){b:Bool}(hb:b=false)(h:b=true↔WfT (fun s=>isb s=true) d (ks.getD k ct)):∃ a,Value.bool false=.bool a/\(a=true↔WfT (fun s=>isb s=true) (d+1) (.mk op n q s ks)):=⟨false,rfl,fun c=>(by cases c),fun ⟨_,_,_,_,_,_,_,_,e⟩=>by rw[h.2 (e k hk)] at hb;cases hb⟩
theorem Gz (h:Is isb op n q s ks.length)(c:LQ 3000 q)(b:∀ i,i<ks.length->WfT (fun s=>isb s=true) d (ks.getD i ct)):∃ a,Value.bool true=.bool a/\(a=true↔WfT (fun s=>isb s=true) (d+1) (.mk op n q s ks)):=by
 obtain ⟨h1,o,⟨l,f⟩,j,u,p⟩:=h;refine ⟨true,rfl,fun _=>⟨h1,fun e=>KH.1 (o.resolve_left e),c,l,f,fun e=>j.resolve_left e,u,p,b⟩,fun _=>rfl⟩
end
def FI (nm:Int->ByteArray)(l:List Stp):Nat->Nat->Tm
  | 0,_=>ct
  | f+1,i =>
    if (l.getD i d9).op=2 then .mk 2 0 0 (nm (l.getD i d9).n) []
    else if dU (l.getD i d9).op=1 then .mk (l.getD i d9).op (l.getD i d9).n 0 ⟨#[]⟩ [FI nm l f (l.getD i d9).a.toNat]
    else if dU (l.getD i d9).op=2 then .mk (l.getD i d9).op 0 0 ⟨#[]⟩ [FI nm l f (l.getD i d9).a.toNat,FI nm l f (l.getD i d9).b.toNat]
    else .mk (l.getD i d9).op 0 (l.getD i d9).q ⟨#[]⟩ []
structure MapJ (h0:Hp) (B:List Bx) (w:World) (h:Hp) (b:Nat) (es:List MapEntry) (clk:Nat):Prop where
  obj:w.heap[b]?=some (.map es.toArray clk)
  jk:h[b]?=some bj
  lo:h0.size<=b
  nb:∀ x∈B,x.b≠b
def MapS (h:Hp)(b:Nat)(es:List MapEntry):Prop:=∃ clk,h[b]?=some (.map es.toArray clk)
theorem MapS.gw {h a:Hp}{b:Nat}{d:List MapEntry}(x:MapS h b d)(u:Gw h a):MapS a b d:=by
 obtain ⟨c,e⟩:=x;refine ⟨c,?_⟩
 rcases u.blk b (aJ e) with k|k
 ·exact k.trans e
 ·rw[e] at k;cases k
theorem MapS.w {w:World}{h:Hp}{b:Nat}{d:List MapEntry}(x:MapS h b d)(g:G w h):∃ a,w.heap[b]?=some (.map d.toArray a):=by
 obtain ⟨c,e⟩:=x;refine ⟨c,?_⟩
 rcases g.blk b with k|k
 ·rw[<-k];exact e
 ·rw[e] at k;cases k
theorem rR {P:Program}(w:World){mty kt et:TypeId}{b a:Nat}{c:Array MapEntry}{s:ByteArray}{val:Value}(hm:P.underlying mty=some (.map kt et))(hk:P.underlying kt=some .string)(hb:w.heap[b]?=some (.map c a))(hf:Instr.findNow .string (.string s) c.toList 0=some none) :
  (Instr.mapUpdate mty (.map (some b)) (.string s) val).run P w=.ok () { w with heap:=w.heap.setIfInBounds b (.map (c.push { key:=.string s,val:=val,born:=a }) (a+1)) }:=by
 have d:(Instr.checkKey false 10000 kt (.string s)).run P w=.ok () w:=MapKept.run_checkKey (k:=.string s) hk (by simp[MapKept.IsKey]) false 9999
 simp[Instr.mapUpdate,run_underlying hm,MapKept.run_getObj_map hb,d,MapKept.run_findKey hk hf,MapKept.run_setObj_map _ hb,Result.andThen]
theorem qk {P:Program}(w:World){mty kt et:TypeId}{b a i:Nat}{c:Array MapEntry}{s:ByteArray}{val j:Value}(hm:P.underlying mty=some (.map kt et))(hk:P.underlying kt=some .string)(hb:w.heap[b]?=some (.map c a))(hf:Instr.findNow .string (.string s) c.toList 0=some (some (i,j)))(d:((c[i]?).map (·.key)).getD (.string s)=.string s) :
  (Instr.mapUpdate mty (.map (some b)) (.string s) val).run P w=.ok () { w with heap:=w.heap.setIfInBounds b (.map (c.modify i fun e=>{ e with key:=.string s,val:=val }) a) }:=by
 have h:(Instr.checkKey false 10000 kt (.string s)).run P w=.ok () w:=MapKept.run_checkKey (k:=.string s) hk (by simp[MapKept.IsKey]) false 9999;have f:(s == s)=true:=by first|exact beq_self_eq_true s|(show (s.data == s.data)=true;exact beq_self_eq_true _)|(cases s;rfl)
 have l:Instr.sameBits 10000 (.string s) (.string s)=true:=by simp[Instr.sameBits,f]
 simp[Instr.mapUpdate,run_underlying hm,MapKept.run_getObj_map hb,h,MapKept.run_findKey hk hf,MapKept.run_setObj_map _ hb,Result.andThen,d,Instr.keyThatStays,l]
theorem vi {P:Program}(w:World){mty kt et:TypeId}{b c:Nat}{a:Array MapEntry}{s:ByteArray}(ok:Bool){v:Value}{found:Bool}(hm:P.underlying mty=some (.map kt et))(hk:P.underlying kt=some .string)(hb:w.heap[b]?=some (.map a c))
  (hf:(∃ i,Instr.findNow .string (.string s) a.toList 0=some (some (i,v))/\found=true)\/(Instr.findNow .string (.string s) a.toList 0=some none/\found=false/\(zeroValue et).run P w=.ok v w)) :
  (Instr.lookup mty (.map (some b)) (.string s) ok).run P w=.ok (if ok then .tuple #[v,.bool found] else v) w:=by
 have d:(Instr.checkKey a.isEmpty 10000 kt (.string s)).run P w=.ok () w:=MapKept.run_checkKey (k:=.string s) hk (by simp[MapKept.IsKey]) _ 9999
 rcases hf with ⟨i,hf,rfl⟩|⟨hf,rfl,hz⟩
 ·simp[Instr.lookup,run_underlying hm,MapKept.run_getObj_map hb,d,MapKept.run_findKey hk hf,Result.andThen]
 ·simp[Instr.lookup,run_underlying hm,MapKept.run_getObj_map hb,d,MapKept.run_findKey hk hf,hz,Result.andThen]
theorem r7 {w:World}{b:Nat}{o o':Obj}(hb:w.heap[b]?=some o):Put b w { w with heap:=w.heap.setIfInBounds b o' }/\({ w with heap:=w.heap.setIfInBounds b o' }:World).heap[b]?=some o':=by
 have a:b<w.heap.size:=(g4.1 hb).1;refine ⟨⟨rfl,rfl,rfl,by simp,fun c d=>by show (w.heap.setIfInBounds b o')[c]?=_;rw[g6 (Ne.symm d)]⟩,?_⟩
 show (w.heap.setIfInBounds b o')[b]?=_
 rw[yz a]
section laws
variable {P:Program}{n:Nat}{N R:Po}{X:Nat->Po}{ops:Array Oper}{k:Nat}{Γ:ck}{w:World}{h:Hp}{w0:World}{h0:Hp}{B:List Bx}{Rs:List Rw}{F:List (Hp->Prop)}
theorem SS.pokeJ (s:SS w0 h0 w h B [] F){b:Nat}{w':World}(d:h[b]?=some bj)(c:h0.size<=b)(e:∀ x∈B,x.b≠b)(p:Put b w w'):SS w0 h0 w' h B [] F :=
 ⟨s.g0,⟨s.st.up.put p d c s.g0.size,fun x a=>(p.blk _ (e x a)).trans (s.st.own x a),s.st.jk,s.st.lo,s.st.nd⟩,fun _ a=>(by cases a),.nil,s.mo,s.f⟩
theorem FH (t:Nat)(s:SS w0 h0 w h B Rs F)(H:∀ b w' h',SS w0 h0 w' h' B Rs F->MapJ h0 B w' h' b [] 0->LG P n N R X ops (k+1) ((t,.map (some b))::Γ) w')(a:cL ops Γ k t n=true:=by kernel_rfl)
  (hr:(execOp (ev Γ) (ao ops k)).run P w=.ok (.value (.map (some w.heap.size))) (w.alloc (.map #[] 0)):=by kernel_rfl):LG P n N R X ops k Γ w:=by
 have u:Up w h (w.alloc (.map #[] 0)) (h.push bj):=Up.allocAny s.g _ _ (.inr rfl);refine LG.val t _ _ (bR a).1 (bR a).2 hr (H _ _ _ (s.step u) ⟨?_,?_,?_,fun x c e=>?_⟩)
 ·rw[heap_alloc];exact e6
 ·rw[s.g.size];exact e6
 ·rw[s.g.size];exact s.st.sz
 ·have:=aJ (s.st.jk x c)
  have:=s.g.size
  omega
theorem ox {b a:Nat}{c:List MapEntry}(mty kt et:TypeId)(ky:ByteArray)(val:Value)(s:SS w0 h0 w h B [] F)(m:MapJ h0 B w h b c a)(H:∀ w',SS w0 h0 w' h B [] F->MapJ h0 B w' h b (c++[⟨.string ky,val,a⟩]) (a+1)->LG P n N R X ops (k+1) Γ w')
  (d:cS ops Γ k=true:=by kernel_rfl)(f:execOp (ev Γ) (ao ops k)=(do Instr.mapUpdate mty (.map (some b)) (.string ky) val;pure .skip):=by kernel_rfl)(e:P.underlying mty=some (.map kt et):=by kernel_rfl)(hk:P.underlying kt=some .string:=by kernel_rfl)(hf:Instr.findNow .string (.string ky) c 0=some none:=by kernel_rfl):LG P n N R X ops k Γ w:=by
 have hr:=rR w (val:=val) e hk m.obj hf;obtain ⟨p,i⟩:=r7 (o':=.map (c.toArray.push { key:=.string ky,val:=val,born:=a }) (a+1)) m.obj;refine LG.store _ (iH d).1 (iH d).2 ?_ (H _ (s.pokeJ m.jk m.lo m.nb p) ⟨?_,m.jk,m.lo,m.nb⟩)
 ·rw[f];simp[hr,Result.andThen]
 ·rw[i];simp
theorem Jm {b a i:Nat}{c:List MapEntry}(mty kt et:TypeId)(ky:ByteArray)(val y:Value)(d:List MapEntry)(s:SS w0 h0 w h B [] F)(m:MapJ h0 B w h b c a)(H:∀ w',SS w0 h0 w' h B [] F->MapJ h0 B w' h b d a->LG P n N R X ops (k+1) Γ w')
  (f:cS ops Γ k=true:=by kernel_rfl)(u:execOp (ev Γ) (ao ops k)=(do Instr.mapUpdate mty (.map (some b)) (.string ky) val;pure .skip):=by kernel_rfl)(l:P.underlying mty=some (.map kt et):=by kernel_rfl)(hk:P.underlying kt=some .string:=by kernel_rfl)(hf:Instr.findNow .string (.string ky) c 0=some (some (i,y)):=by kernel_rfl)
  (j:((c.toArray[i]?).map (·.key)).getD (.string ky)=.string ky:=by kernel_rfl)(o:c.toArray.modify i (fun e=>{ e with key:=.string ky,val:=val })=d.toArray:=by kernel_rfl):LG P n N R X ops k Γ w:=by
 have hr:=qk w (val:=val) l hk m.obj hf j;obtain ⟨p,x⟩:=r7 (o':=.map (c.toArray.modify i fun e=>{ e with key:=.string ky,val:=val }) a) m.obj;refine LG.store _ (iH f).1 (iH f).2 ?_ (H _ (s.pokeJ m.jk m.lo m.nb p) ⟨?_,m.jk,m.lo,m.nb⟩)
 ·rw[u];simp[hr,Result.andThen]
 ·rw[x,o]
theorem Gj (t:Nat){b:Nat}{a:List MapEntry}(mty kt et:TypeId)(ky:ByteArray)(ok:Bool)(v:Value)(found:Bool)(s:SS w0 h0 w h B Rs F)(m:MapS h b a)(H:LG P n N R X ops (k+1) ((t,if ok then .tuple #[v,.bool found] else v)::Γ) w)(c:cL ops Γ k t n=true:=by kernel_rfl)
  (f:execOp (ev Γ) (ao ops k)=(do pure (.value (<-Instr.lookup mty (.map (some b)) (.string ky) ok))):=by kernel_rfl)(e:P.underlying mty=some (.map kt et):=by kernel_rfl)(hk:P.underlying kt=some .string:=by kernel_rfl)
  (hf:(∃ i,Instr.findNow .string (.string ky) a 0=some (some (i,v))/\found=true)\/(Instr.findNow .string (.string ky) a 0=some none/\found=false/\∀ w,(zeroValue et).run P w=.ok v w)):LG P n N R X ops k Γ w:=by
 obtain ⟨d,hm⟩:=m.w s.g;refine LG.val t _ w (bR c).1 (bR c).2 ?_ H;rw[f];have hr:=vi w ok (v:=v) (found:=found) e hk hm (hf.imp id fun h=>⟨h.1,h.2.1,h.2.2 w⟩)
 simp[hr,Result.andThen]
theorem JD (t:Nat){b:Nat}{a:List MapEntry}(mty ty kt et:TypeId)(s:SS w0 h0 w h B Rs F)(m:MapS h b a)(H:LG P n N R X ops (k+1) ((t,.int .i64 (a.length:Nat))::Γ) w)(c:cL ops Γ k t n=true:=by kernel_rfl)
  (e:execOp (ev Γ) (ao ops k)=(do pure (.value (<-Builtin.len_ #[mty] ty #[.map (some b)]))):=by kernel_rfl)(d:P.underlying mty=some (.map kt et):=by kernel_rfl):LG P n N R X ops k Γ w:=by
 obtain ⟨f,hm⟩:=m.w s.g;refine LG.val t _ w (bR c).1 (bR c).2 ?_ H;rw[e]
 have hr:(Builtin.len_ #[mty] ty #[.map (some b)]).run P w=.ok (goInt a.toArray.size) w:=by
  simp[Builtin.len_,run_underlying d,MapKept.run_getObj_map hm,Result.andThen]
 simp[hr,Result.andThen,goInt]
theorem SS.pubMap {b a:Nat}{j:List MapEntry}(s:SS w0 h0 w h B [] F)(m:MapJ h0 B w h b j a):∃ l,SS w0 h0 w l B [] F/\MapS l b j:=by
 have d:=aJ m.jk;refine ⟨h.setIfInBounds b (.map j.toArray a),⟨s.g0,⟨⟨s.st.up.ext,⟨by simp;exact s.st.up.gr.size,fun c o=>?_⟩,⟨by simp;exact s.st.up.g.size,fun c=>?_⟩⟩,s.st.own,fun x i=>?_,s.st.lo,s.st.nd⟩,fun _ i=>(by cases i),.nil,s.mo,s.f.gw s.mo ⟨by simp,fun c _=>?_⟩⟩,a,?_⟩
 ·have:=m.lo
  rw[g6 oM];exact s.st.up.gr.blk c o
 ·by_cases e:b=c
  ·subst e;left;rw[yz d];exact m.obj.symm
  ·rw[g6 e];exact s.st.up.g.blk c
 ·rw[g6 (Ne.symm (m.nb x i))];exact s.st.jk x i
 ·by_cases e:b=c
  ·subst e;exact .inr m.jk
  ·left;rw[g6 e]
 ·rw[yz d]
end laws
theorem xd {α:Type}{l:List α}{d x:α}{k i:Nat}(hk:k<l.length):(l.set k x).getD i d=if i=k then x else l.getD i d:=by
 rw[zY,List.getElem?_set]
 by_cases e:k=i
 ·subst e;rw[if_pos rfl,if_pos hk,if_pos rfl];rfl
 ·rw[if_neg e,if_neg (fun h=>e h.symm),<-zY]
def TmsU (d:Nat)(h:Hp)(k:Nat)(ps:List PTm)(ts:List Tm):Prop:=∀ i,i<k->TmH d h (ps.getD i aE) (ts.getD i ct)
theorem TmsU.gw {d:Nat}{h b:Hp}{k:Nat}{ps:List PTm}{a:List Tm}(x:TmsU d h k ps a)(u:Gw h b):TmsU d b k ps a:=fun i hi=>(x i hi).gw u
theorem TmsU.set {d:Nat}{h:Hp}{k:Nat}{ps:List PTm}{a:List Tm}{p:PTm}(x:TmsU d h k ps a)(hk:k<ps.length)(y:TmH d h p (a.getD k ct)):TmsU d h (k+1) (ps.set k p) a:=fun i hi=>by
 rw[xd hk]
 by_cases e:i=k
 ·subst e;rw[if_pos rfl];exact y
 ·rw[if_neg e];exact x i oM
theorem Tms.of_u {d:Nat}{h:Hp}{k:Nat}{ps:List PTm}{a:List Tm}(b:ps.length=a.length)(hk:a.length<=k)(x:TmsU d h k ps a):Tms d h ps a:=⟨b,fun i hi=>x i oM⟩
theorem tZ (f:Nat->Nat){a b:Nat}(h:a<=b):ew f a<=ew f b:=by
 induction h with
 | refl=>exact ep _
 | step _ ih=>exact eu ih (KL _ _)
def br (op n:Int):Nat:=if op=11 then 2 else if op=8 then aG n else 1
theorem bg (op n:Int):1<=br op n:=by
 unfold br aG
 split
 ·omega
 ·split
  ·split<;>omega
  ·omega
theorem gL {d:Nat}{op n:Int}{q:Rat}{s:ByteArray}{ks:List Tm}(h:ks.length=0):ba (d+1) (.mk op n q s ks)=1:=if_pos h
theorem iP {d:Nat}{op n:Int}{q:Rat}{s:ByteArray}{ks:List Tm}(h:ks.length≠0):ba (d+1) (.mk op n q s ks)=br op n*ew (fun i=>ba d (ks.getD i ct)) ks.length:=if_neg h
theorem qx {d:Nat}{op n:Int}{q:Rat}{s:ByteArray}{ks:List Tm}(h:ks.length≠0):ew (fun i=>ba d (ks.getD i ct)) ks.length<=ba (d+1) (.mk op n q s ks):=by
 rw[iP h];exact J5 _ (bg op n)
theorem k5 {m s:Nat}(h:1<=m):min (m*min s 1001) 1001=min (m*s) 1001:=by
 rcases Nat.le_total s 1001 with e|e
 ·rw[Nat.min_eq_left e]
 ·rw[Ag e,Ag (eu e (J5 _ h)),Ag (J5 _ h)]
theorem At (op:Int)(w:World)(h:Hp)(g:G w h):CV 94 #[iV op] w h (iV (dU op)):=by
 have a:=sS g;refine go Tryz.func94 [(0,iV op)] rfl (aa a ac (af (aa a ac (bh (cQ (aD ?_))))));cases o:((op:Int) == (1:Int))
 .
  have D:=ag o;refine lB 5 o (lL a ac (ah (kQ ?_)));cases d:((op:Int) == (2:Int))
  .
   have u:=ag d;refine lB 6 d (lL a ac (ah (cQ (aD ?_))));cases c:((op:Int) == (7:Int))
   .
    have y:=ag c;refine lB 8 c (lL a ac (ah (aD ?_)));cases i:((op:Int) == (8:Int))
    .
     have p:=ag i;refine lB 9 i (lL a ac (ah (aD ?_)));cases e:((op:Int) == (9:Int))
     .
      have z:=ag e;refine lB 10 e (lL a ac (ah (aD ?_)));cases j:((op:Int) == (10:Int))
      .
       have C:=ag j;refine lB 11 j (lL a ac (ah (kQ ?_)));cases b:((op:Int) == (11:Int))
       .
        have B:=ag b;refine lB 12 b (lL a ac (ah (cQ (aD ?_))));cases f:((op:Int) == (3:Int))
        .
         have x:=ag f;refine lB 14 f (lL a ac (ah (aD ?_)));cases l:((op:Int) == (4:Int))
         .
          have F:=ag l;refine lB 15 l (lL a ac (ah (aD ?_)));cases H:((op:Int) == (5:Int))
          .
           have L:=ag H;refine lB 16 H (lL a ac (ah (aD ?_)));cases J:((op:Int) == (6:Int))
           .
            have M:=ag J;refine lB 17 J (lL a ac (ah (aD ?_)));cases K:((op:Int) == (12:Int))
            .
             have O:=ag K;refine lB 18 K (lL a ac (ah (kQ ?_)));cases I:((op:Int) == (13:Int))
             .
              have Q:=ag I;exact lB 19 I (lL a ac (ah (cK (aa a ac (ae a [] (iV (-1)) (congrArg (Value.int .i64) (by have:=az op;omega)))))))
             have Q:=eq_of_beq I;exact lB 19 I (lL a ac (au (aa a ac (ae a [] (iV 2) (congrArg (Value.int .i64) (by have:=az op;omega))))))
            have O:=eq_of_beq K;exact lB 18 K (lL a ac (au (cK (cl (aa a ac (ae a [] (iV 2) (congrArg (Value.int .i64) (by have:=az op;omega))))))))
           have M:=eq_of_beq J;exact lB 17 J (lL a ac (au (cK (cl (aa a ac (ae a [] (iV 2) (congrArg (Value.int .i64) (by have:=az op;omega))))))))
          have L:=eq_of_beq H;exact lB 16 H (lL a ac (au (cK (cl (aa a ac (ae a [] (iV 2) (congrArg (Value.int .i64) (by have:=az op;omega))))))))
         have F:=eq_of_beq l;exact lB 15 l (lL a ac (au (cK (cl (aa a ac (ae a [] (iV 2) (congrArg (Value.int .i64) (by have:=az op;omega))))))))
        have x:=eq_of_beq f;exact lB 14 f (lL a ac (au (cK (cl (aa a ac (ae a [] (iV 2) (congrArg (Value.int .i64) (by have:=az op;omega))))))))
       have B:=eq_of_beq b;exact lB 12 b (lL a ac (au (aa a ac (ae a [] (iV 1) (congrArg (Value.int .i64) (by have:=az op;omega))))))
      have C:=eq_of_beq j;exact lB 11 j (lL a ac (au (cK (cl (aa a ac (ae a [] (iV 1) (congrArg (Value.int .i64) (by have:=az op;omega))))))))
     have z:=eq_of_beq e;exact lB 10 e (lL a ac (au (cK (cl (aa a ac (ae a [] (iV 1) (congrArg (Value.int .i64) (by have:=az op;omega))))))))
    have p:=eq_of_beq i;exact lB 9 i (lL a ac (au (cK (cl (aa a ac (ae a [] (iV 1) (congrArg (Value.int .i64) (by have:=az op;omega))))))))
   have y:=eq_of_beq c;exact lB 8 c (lL a ac (au (cK (cl (aa a ac (ae a [] (iV 1) (congrArg (Value.int .i64) (by have:=az op;omega))))))))
  have u:=eq_of_beq d;exact lB 6 d (lL a ac (au (aa a ac (ae a [] (iV 0) (congrArg (Value.int .i64) (by have:=az op;omega))))))
 have D:=eq_of_beq o;exact lB 5 o (lL a ac (au (cK (cl (aa a ac (ae a [] (iV 0) (congrArg (Value.int .i64) (by have:=az op;omega))))))))
theorem EC (n:Int)(h0 : -12<=n)(h1:n<=12)(w:World)(h:Hp)(g:G w h):CV 95 #[iV n] w h (nV (aG n)):=by
 have a:=sS g;refine go Tryz.func95 [(0,iV n)] rfl (aa a ac (af (aa a ac ?_)));cases b:(decide ((n:Int)<=(-1073741824:Int)))
 .
  have d:=oF b;refine lB 4 b (lL a aK ?_);cases c:(decide ((1073741824:Int)<=(n:Int)))
  .
   have e:=oF c;refine lB 7 c (lL a [.v qF] (ah (cK (aa a aK (lI 11 (0-n) ?_)))));refine lV 12 (iV (max (max (n:Int) (0-n:Int)) (1:Int))) ?_ (hr:=be (n:=(if (1:Int)>(if (0-n:Int)>(n:Int) then (0-n:Int) else (n:Int)) then (1:Int) else (if (0-n:Int)>(n:Int) then (0-n:Int) else (n:Int)))) kR (by simp only[pm]));exact lL a ac (ae a [] (iV (max (max (n:Int) (0-n:Int)) (1:Int))) (congrArg (Value.int .i64) (by unfold aG;(repeat' split)<;>omega)))
  have e:=oT c;exact lB 7 c (lL a [.v qT] (au (aa a ac (ae a [] (iV 1073741824) (congrArg (Value.int .i64) (by unfold aG;(repeat' split)<;>omega))))))
 have d:=oT b;refine lB 4 b (lL a ac (lG 6 ?_));exact lG 7 (lL a [.v qT] (au (aa a ac (ae a [] (iV 1073741824) (congrArg (Value.int .i64) (by unfold aG;(repeat' split)<;>omega))))))
theorem wx  (sm:ByteArray->Prop)(d:Nat)(U:∀ (p:PTm) (t:Tm) (a:Int) (w:World) (h:Hp),G w h->TmH d h p t->rB sm d t->(d:Int)<=a->a<=1000->Calls Tryz.prog 59 #[ar p,iV a] w (Ret w h (fun v _=>v=.bool false)))(op n:Int)(q:Rat)(s:ByteArray)(A:Z9)(c:Nat)(ps:List PTm)(ks:List Tm)(hc:ps.length<=c)(F:ps.length<=3)(H:ks.length<=3)(V : -1000<=op/\op<=1000)(X : -1000<=n/\n<=1000)(Y:LQ 3000 q)(M:sm s)(Q:∀ i,i<ks.length->rB sm d (ks.getD i ct))(a:Int)(hm:((d+1:Nat):Int)<=a)(S:a<=1000)(w:World)(h:Hp)(g:G w h)(W:SlO 9 aI aE h A ps)(z:Tms d h ps ks):CV 59 #[ar ⟨op,n,q,s,A,ps.length,c⟩,iV a] w h (.bool false):=by
 have b:=(((sS g).aS W).add (K:=fun l=>Tms d l ps ks) z);have O:=(b.f.1).len;refine go Tryz.func59 [(0,ar ⟨op,n,q,s,A,ps.length,c⟩),(1,iV a)] rfl (aD (lA 2 32 (aI ⟨op,n,q,s,A,ps.length,c⟩) b (fun B w2 L b=>lL b ac (af (aa b ac ?_)))));cases j:(decide ((a:Int)<(1:Int)))
 .
  have u:=oF j;refine lB 8 j (ah (cK (cQ (aa b [.v (qP B 8),.o (qS A ps.length c) 0 8 1,.v (nV ps.length),.c] (bh ?_)))));refine cj _ (CG.loop (fun y Γ D=>∃ (k:Nat)(l:Hp),y=ps.length-k/\Γ=[(1,iV a),(10,qS A ps.length c),(11,nV ps.length),(12,nV k)]/\SS w h D l [⟨B,32,aI ⟨op,n,q,s,A,ps.length,c⟩⟩] [] [fun l=>Tms d l ps ks,fun l=>SlO 9 aI aE l A ps]/\k<=ps.length) _ ⟨0,L,rfl,rfl,b.to _ _,JL _⟩ ?_);rintro _ _ Z ⟨k,h6,J,rfl,b,hk⟩;refine aD ?_;cases e:(decide ((k:Int)<(ps.length:Int)))
  .
   have x:=oF e;refine lB 13 e (af (cW (CG.exit ?_)))
   show CG _ _ _ _ _ _ _ _
   exact aa b ac (ae b [] qF rfl)
  have x:=oT e;refine lB 13 e (af (cl (cK (cQ (kZ (aD (lX 14 A ps.length c 9 (k:Nat) k ((b.f.2.1).ok oM) ?_)))))));refine lH 15 (ar (ps.getD k aE)) b ((b.f.2.1).el k oM) (lA 6 32 a2 b (fun b9 _ _ b=>lP 0 0 (aI (ps.getD k aE)) b (fun _ b=>aR (lL b [.o (ar (ps.getD k aE)) 0 0 9,.c] (lI 18 (a-1) ?_)))));refine am 19 b (U (ps.getD k aE) (ks.getD k ct) (a-1) _ _ b.g ((b.f.1).at_ k oM) (Q k oM) oM oM) (fun _ C b=>ah (cK (kQ (bI 20 ((k:Nat)+1) (k+1) ?_))));refine lL b ac (lD ?_);intro a_ I;replace b:=b.drop 1 0;refine ⟨_,_,?_,⟨k+1,C,rfl,rfl,b.to _ _,oM⟩,I.to _ kR⟩
  omega
 have u:=oT j;refine lB 8 j (au (aa b ac (lN (kX ?_))))
 exfalso;omega
theorem sF (sm:ByteArray->Prop):∀ (d:Nat) (p:PTm) (t:Tm) (a:Int) (w:World) (h:Hp),G w h->TmH d h p t->rB sm d t->(d:Int)<=a->a<=1000->Calls Tryz.prog 59 #[ar p,iV a] w (Ret w h (fun v _=>v=.bool false))
  | 0,_,_,_,_,_,_,x,_,_,_=>x.elim
  | d+1,p,t,a,w,h,g,x,wf,hm,hm2=>by
    obtain ⟨op,n,q,s,A,c,ps,ks,rfl,rfl,i,z,b⟩:=x.open;obtain ⟨e,l,j,u,o,f⟩:=wf;have y:ks.length<=3:=e;exact wx sm d (fun p t a w h=>sF sm d p t a w h) op n q s A c ps ks i (by have:=b.len;omega) e l j u o f a hm hm2 w h g z b
theorem wI  (isb:ByteArray->Bool)(sm:ByteArray->Prop)(qN:∀ s,sm s->∀ (w:World) (h:Hp),G w h->Calls Tryz.prog 48 #[.string s] w (Ret w h (fun v _=>∃ b,v=.bool b/\b=isb s)))(d:Nat)(ih:∀ (p:PTm) (t:Tm) (w:World) (h:Hp),G w h->TmH d h p t->rB sm d t ->  Calls Tryz.prog 60 #[ar p] w (Ret w h (fun v _=>∃ D,v=.bool D/\(D=true↔WfT (fun s=>isb s=true) d t))))(op n:Int)(q:Rat)(s:ByteArray)(A:Z9)(c:Nat)(ps:List PTm)(ks:List Tm)(hc:ps.length<=c)(hlp:ps.length<=3)(hk3:ks.length<=3)(hop : -1000<=op/\op<=1000)(hn : -1000<=n/\n<=1000)(hq:LQ 3000 q)(hsm:sm s)(hW:∀ i,i<ks.length->rB sm d (ks.getD i ct))(w:World)(h:Hp)(g:G w h)(hK:SlO 9 aI aE h A ps)(hKs:Tms d h ps ks):CR 60 #[ar ⟨op,n,q,s,A,ps.length,c⟩] w h (fun v _=>∃ D,v=.bool D/\(D=true↔WfT (fun s=>isb s=true) (d+1) (.mk op n q s ks))):=by
 have a:=(((sS g).aS hK).add (K:=fun e=>Tms d e ps ks) hKs);have hln:=(a.f.1).len;have hsg:q.num.sign=0↔q.num=0:=KM;refine go Tryz.func60 [(0,ar ⟨op,n,q,s,A,ps.length,c⟩)] rfl (aD (lA 1 32 (aI ⟨op,n,q,s,A,ps.length,c⟩) a (fun l w2 h3 a=>lL a ac (af (cQ (cR 7 [] mixed a aq ?_))))));refine eV 0 5 (pB l) (eO 1 6 [(0,0,1)] (iV op) a (eV 3 8 (qP l 8) (eO 4 9 [(0,8,1)] (qS A ps.length c) a (eV 5 10 (nV ps.length) (ai 2 7 a (fun _ _ a=>At op _ _ a.g) (fun w4 h5 a=>?_))))));cases x:((dU op:Int) != (ps.length:Int))
 .
  have L:=aY x;refine eB 6 11 x (bY a (fun w7 h8 a=>?_));refine tN (cW (cK (cQ (CG.join (fun Γ B=>∃ (C:Bool)(e:Hp),Γ=[(1,pB l),(2,qF),(20,.bool C)]/\SS w h B e [⟨l,32,aI ⟨op,n,q,s,A,ps.length,c⟩⟩] [] [fun e=>Tms d e ps ks,fun e=>SlO 9 aI aE e A ps]/\(C=true->¬(op=1\/q.num=0))/\(C=false->(op=1\/q.num=0))) ?_ ?_))))
  .
   refine kQ (lL a [.v (pB l),.o (iV op) 0 0 1] ?_);cases z:((op:Int) != (1:Int))
   .
    have I:=aY z;refine lB 14 z (lL a ac (lG 16 ?_));refine lG 17 (lG 18 (lG 19 (lL a [.v qF] (lD ?_))));intro u j;exact ⟨_,⟨false,h8,rfl,a.to _ _,(fun e=>absurd e kD),(fun _=>by omega)⟩,j.to _ kR⟩
   have I:=a6 z;refine lB 14 z (lL a [.c,.v (qP l 2),.o (qv q) 0 2 5] (am 18 a (gM q (hq.mono oM) _ _ a.g) (fun _ zD a=>?_)));cases Y:((q.num.sign:Int) != (0:Int))
   .
    have zs:=aY Y;refine lB 19 Y (lL a [.v qF] (lD ?_));intro u j;exact ⟨_,⟨false,zD,rfl,a.to _ _,(fun e=>absurd e kD),(fun _=>by omega)⟩,j.to _ kR⟩
   have zs:=a6 Y;refine lB 19 Y (lL a [.v qT] (lD ?_));intro u j;exact ⟨_,⟨true,zD,rfl,a.to _ _,(fun _=>by omega),(fun e=>absurd e kD)⟩,j.to _ kR⟩
  rintro _ _ ⟨C,zE,rfl,a,zH,J⟩;cases zb:(C)
  .
   try rw[zb] at a
   try rw[zb]
   refine cW (cK (cQ (CG.join (fun Γ B=>∃ (Q:Bool)(e:Hp),Γ=[(1,pB l),(2,qF),(39,.bool Q)]/\SS w h B e [⟨l,32,aI ⟨op,n,q,s,A,ps.length,c⟩⟩] [] [fun e=>Tms d e ps ks,fun e=>SlO 9 aI aE e A ps]/\(Q=true->¬((op=2->isb s=true)/\(op≠2->s=⟨#[]⟩)))/\(Q=false->((op=2->isb s=true)/\(op≠2->s=⟨#[]⟩)))) ?_ ?_)))
   .
    refine kQ (lL a [.v (pB l),.o (iV op) 0 0 1] ?_);cases V:((op:Int) == (2:Int))
    .
     have zt:=ag V;refine lB 23 V (lL a ac (lG 25 ?_));refine lG 26 (lG 27 (lG 28 (lL a [.v qF,.c,.v (pB l),.o (iV op) 0 0 1] ?_)));have zq:((op:Int) != (2:Int))=true:=H7 oM;have bf:=a6 zq;refine lB 33 zq (lL a [.c,.v (qP l 7),.o (.string s) 0 7 1] ?_);cases zd:(oJ s (⟨#[]⟩))
     .
      have zu:=B9 zd;refine lB 37 zd (lL a [.v qF,.v qF] (lD ?_));intro u j;exact ⟨_,⟨false,zE,rfl,a.to _ _,(fun e=>absurd e kD),(fun _=>⟨fun e=>by first|exact y.symm.trans aM|exact absurd e oM,fun e=>by first|assumption|exact absurd e oM⟩)⟩,j.to _ kR⟩
     have zu:=BB zd;refine lB 37 zd (lL a [.v qT,.v qT] (lD ?_));intro u j;exact ⟨_,⟨true,zE,rfl,a.to _ _,(fun _ e=>by first|exact KN ((e.1 oM).symm.trans (y.symm.trans aM))|exact absurd (e.2 oM) aM),(fun e=>absurd e kD)⟩,j.to _ kR⟩
    have zt:=eq_of_beq V;refine lB 23 V (lL a [.c,.v (qP l 7),.o (.string s) 0 7 1] (lC 27 a (qN s hsm _ _ a.g) ?_));rintro _ _ zG a ⟨bi,rfl,y⟩;cases bq:(bi)
    .
     refine lL a [.v qT,.v qT,.c] (lG 31 ?_);refine lG 32 (lG 33 (lG 34 (lG 35 (lG 36 (lG 37 (lG 38 (lL a [.v qT] (lD ?_))))))));intro u j;exact ⟨_,⟨true,zG,rfl,a.to _ _,(fun _ e=>by first|exact KN ((e.1 oM).symm.trans (y.symm.trans aM))|exact absurd (e.2 oM) aM),(fun e=>absurd e kD)⟩,j.to _ kR⟩
    refine lL a [.v qF,.v qF,.c,.v (pB l),.o (iV op) 0 0 1] ?_;have zr:((op:Int) != (2:Int))=false:=Fz oM;have bl:=aY zr;refine lB 33 zr (lL a ac (lG 35 ?_));refine lG 36 (lG 37 (lL a [.v qF,.v qF] (lD ?_)));intro u j;exact ⟨_,⟨false,zG,rfl,a.to _ _,(fun e=>absurd e kD),(fun _=>⟨fun e=>by first|exact y.symm.trans aM|exact absurd e oM,fun e=>by first|assumption|exact absurd e oM⟩)⟩,j.to _ kR⟩
   rintro _ _ ⟨Q,M,rfl,a,zI,O⟩;cases ze:(Q)
   .
    try rw[ze] at a
    try rw[ze]
    refine cW (cK (cQ (CG.join (fun Γ B=>∃ (U:Bool)(e:Hp),Γ=[(1,pB l),(2,qF),(57,.bool U)]/\SS w h B e [⟨l,32,aI ⟨op,n,q,s,A,ps.length,c⟩⟩] [] [fun e=>Tms d e ps ks,fun e=>SlO 9 aI aE e A ps]/\(U=true->¬((op=8\/n=0) /\ -12<=n/\n<=12))/\(U=false->((op=8\/n=0) /\ -12<=n/\n<=12))) ?_ ?_)))
    .
     refine kQ (lL a [.v (pB l),.o (iV op) 0 0 1] ?_);cases Z:((op:Int) != (8:Int))
     .
      have zv:=aY Z;refine lB 42 Z (lL a ac (lG 44 ?_));refine lG 45 (lG 46 (lL a [.v qF,.c,.v (qP l 1),.o (iV n) 0 1 1] ?_));cases zg:(decide ((n:Int)<(-12:Int)))
      .
       have zw:=oF zg;refine lB 51 zg (lL a [.v qF,.c,.v (qP l 1),.o (iV n) 0 1 1] ?_);cases X:(decide ((12:Int)<(n:Int)))
       .
        have zx:=oF X;refine lB 56 X (lL a [.v qF] (lD ?_));intro u j;exact ⟨_,⟨false,M,rfl,a.to _ _,(fun e=>absurd e kD),(fun _=>by omega)⟩,j.to _ kR⟩
       have zx:=oT X;refine lB 56 X (lL a [.v qT] (lD ?_));intro u j;exact ⟨_,⟨true,M,rfl,a.to _ _,(fun _=>by omega),(fun e=>absurd e kD)⟩,j.to _ kR⟩
      have zw:=oT zg;refine lB 51 zg (lL a [.v qT,.c] (lG 54 ?_));refine lG 55 (lG 56 (lL a [.v qT] (lD ?_)));intro u j;exact ⟨_,⟨true,M,rfl,a.to _ _,(fun _=>by omega),(fun e=>absurd e kD)⟩,j.to _ kR⟩
     have zv:=a6 Z;refine lB 42 Z (lL a [.c,.v (qP l 1),.o (iV n) 0 1 1] ?_);cases zj:((n:Int) != (0:Int))
     .
      have zA:=aY zj;refine lB 46 zj (lL a [.v qF,.c,.v (qP l 1),.o (iV n) 0 1 1] ?_);have ⟨zJ,bm⟩:=dF (p:=(n:Int)<(-12:Int)) oM;refine lB 51 zJ (lL a [.v qF,.c,.v (qP l 1),.o (iV n) 0 1 1] ?_);have ⟨zK,bd⟩:=dF (p:=(12:Int)<(n:Int)) oM;refine lB 56 zK (lL a [.v qF] (lD ?_));intro u j;exact ⟨_,⟨false,M,rfl,a.to _ _,(fun e=>absurd e kD),(fun _=>by omega)⟩,j.to _ kR⟩
     have zA:=a6 zj;refine lB 46 zj (lL a [.v qT,.c] (lG 49 ?_));refine lG 50 (lG 51 (lL a [.v qT,.c] (lG 54 ?_)));refine lG 55 (lG 56 (lL a [.v qT] (lD ?_)));intro u j;exact ⟨_,⟨true,M,rfl,a.to _ _,(fun _=>by omega),(fun e=>absurd e kD)⟩,j.to _ kR⟩
    rintro _ _ ⟨U,zM,rfl,a,zL,F⟩;cases W:(U)
    .
     try rw[W] at a
     try rw[W]
     refine cW (cK (cQ (aa a [.v (qP l 8),.o (qS A ps.length c) 0 8 1,.v (nV ps.length),.c] (bh ?_))));refine cj _ (CG.loop (fun μ_ Γ B=>∃ (k:Nat)(e:Hp),μ_=ps.length-k/\Γ=[(59,qS A ps.length c),(60,nV ps.length),(61,nV k)]/\SS w h B e [⟨l,32,aI ⟨op,n,q,s,A,ps.length,c⟩⟩] [] [fun e=>Tms d e ps ks,fun e=>SlO 9 aI aE e A ps]/\k<=ps.length/\(∀ i,i<k->WfT (fun s=>isb s=true) d (ks.getD i ct))) _ ⟨0,zM,rfl,rfl,a.to _ _,JL _,(fun i hi=>absurd hi (KO i))⟩ ?_);rintro _ _ _ ⟨k,_,bn,rfl,a,hk,S⟩;refine aD ?_;cases zl:(decide ((k:Int)<(ps.length:Int)))
     .
      have zB:=oF zl;refine lB 62 zl (af (cW (CG.exit ?_)))
      show CG _ _ _ _ _ _ _ _
      exact aa a ac (ae a [] qT (Gz ⟨by omega,J aM,O aM,F aM⟩ hq (fun i hi=>S i oM)))
     have zB:=oT zl;refine lB 62 zl (af (cl (cK (cQ (kZ (aD (lX 63 A ps.length c 9 (k:Nat) k ((a.f.2.1).ok oM) ?_)))))));refine lH 64 (ar (ps.getD k aE)) a ((a.f.2.1).el k oM) (lA 4 32 a2 a (fun b63 _ _ a=>lP 0 0 (aI (ps.getD k aE)) a (fun _ a=>aR (lL a [.o (ar (ps.getD k aE)) 0 0 9] (lC 66 a (ih (ps.getD k aE) (ks.getD k ct) _ _ a.g ((a.f.1).at_ k oM) (hW k oM)) ?_)))));rintro _ _ zN a ⟨bk,rfl,H⟩;cases bt:(bk)
     .
      exact lL a [.v qT] (au (aa a ac (ae a [] qF (FZ (k:=k) oM aM H))))
     refine lL a [.v qF] (ah (cK (kQ (bI 68 ((k:Nat)+1) (k+1) ?_))));refine lL a ac (lD ?_);intro u j;replace a:=a.drop 1 0;refine ⟨_,_,?_,⟨k+1,zN,rfl,rfl,a.to _ _,oM,(fun i hi=>by rcases Nat.lt_succ_iff_lt_or_eq.1 hi with e|rfl;exact S i e;exact H.1 aM)⟩,j.to _ kR⟩
     omega
    try rw[W] at a
    try rw[W]
    exact cl (aa a ac (ae a [] qF (r5 (fun e=>zL aM e.2.2.2))))
   try rw[ze] at a
   try rw[ze]
   exact cl (aa a ac (ae a [] qF (r5 (fun e=>zI aM e.2.2.1))))
  try rw[zb] at a
  try rw[zb]
  exact cl (aa a ac (ae a [] qF (r5 (fun e=>zH aM e.2.1))))
 have L:=a6 x;exact eB 6 11 x (bY a (fun _ _ a=>tN (cl (aa a ac (ae a [] qF (r5 (fun e=>absurd e.1 oM)))))))
theorem pI (isb:ByteArray->Bool)(sm:ByteArray->Prop)(qN:∀ s,sm s->∀ (w:World) (h:Hp),G w h->Calls Tryz.prog 48 #[.string s] w (Ret w h (fun v _=>∃ b,v=.bool b/\b=isb s))):∀ (d:Nat) (p:PTm) (t:Tm) (w:World) (h:Hp),G w h->TmH d h p t->rB sm d t ->  Calls Tryz.prog 60 #[ar p] w (Ret w h (fun v _=>∃ e,v=.bool e/\(e=true↔WfT (fun s=>isb s=true) d t)))
  | 0,_,_,_,_,_,x,_=>x.elim
  | d+1,p,t,w,h,g,x,wf=>by
    obtain ⟨op,n,q,s,A,c,ps,ks,rfl,rfl,j,B,a⟩:=x.open;obtain ⟨f,o,l,y,u,i⟩:=wf;have z:ks.length<=3:=f;exact wI isb sm qN d (fun p t w h=>pI isb sm qN d p t w h) op n q s A c ps ks j (by have:=a.len;omega) f o l y u i w h g B a
theorem xU  (ok:ByteArray->Prop)(d:Nat)(ih:∀ (p:PTm) (t:Tm) (w:World) (h:Hp),G w h->TmH d h p t->WfT ok d t ->  Calls Tryz.prog 61 #[ar p,iV 1001] w (Ret w h (fun v _=>v=iV ((min (ba d t) 1001:Nat):Int))))(op n:Int)(q:Rat)(s:ByteArray)(A:Z9)(c:Nat)(ps:List PTm)(ks:List Tm)(hc:ps.length<=c)(S:ps.length<=2)(M:dU op=(ks.length:Nat))(hq0:op≠1->q=0)(hq:LQ 3000 q)(hok:op=2->ok s)(hs0:op≠2->s=⟨#[]⟩)(O:op≠8->n=0)(U : -12<=n)(hn2:n<=12)(hW:∀ i,i<ks.length->WfT ok d (ks.getD i ct))(w:World)(h:Hp)(g:G w h)(hK:SlO 9 aI aE h A ps)(L:Tms d h ps ks):CV 61 #[ar ⟨op,n,q,s,A,ps.length,c⟩,iV 1001] w h (iV ((min (ba (d+1) (.mk op n q s ks)) 1001:Nat):Int)):=by
 have a:=(((sS g).aS hK).add (K:=fun y=>Tms d y ps ks) L);have hln:=(a.f.1).len;refine go Tryz.func61 [(0,ar ⟨op,n,q,s,A,ps.length,c⟩),(1,iV 1001)] rfl (aD (lA 2 32 (aI ⟨op,n,q,s,A,ps.length,c⟩) a (fun B w2 h3 a=>lL a ac (af (aa a [.v (qP B 8),.o (qS A ps.length c) 0 8 1,.v (nV ps.length)] ?_)))));cases u:((ps.length:Int) == (0:Int))
 .
  have C:=ag u;refine lB 11 u (ah (cK (aa a ac (af (aa a [.v (qP B 8),.o (qS A ps.length c) 0 8 1,.v (nV ps.length),.c] (bh ?_))))));refine cj _ (CG.loop (fun J Γ Q=>∃ (k:Nat)(sm:Nat)(y:Hp),J=ps.length-k/\Γ=[(1,iV 1001),(2,pB B),(15,qS A ps.length c),(16,nV ps.length),(17,nV k),(5,nV sm)]/\SS w h Q y [⟨B,32,aI ⟨op,n,q,s,A,ps.length,c⟩⟩] [] [fun y=>Tms d y ps ks,fun y=>SlO 9 aI aE y A ps]/\k<=ps.length/\sm=min (ew (fun i=>ba d (ks.getD i ct)) k) 1001) _ ⟨0,0,h3,rfl,rfl,a.to _ _,JL _,rfl⟩ ?_);rintro _ _ w5 ⟨k,sm,h6,hm7,rfl,a,hk,z⟩;have hs1:(ew (fun i=>ba d (ks.getD i ct)) (k+1))=(ew (fun i=>ba d (ks.getD i ct)) k)+ba d (ks.getD k ct):=rfl;refine aD ?_;cases l:(decide ((k:Int)<(ps.length:Int)))
  .
   have D:=oF l;refine lB 18 l (af (cW (CG.exit ?_)))
   show CG _ _ _ _ _ _ _ _
   refine cQ (aa a [.v (pB B),.o (iV op) 0 0 1] (bh (aD ?_)));cases x:((op:Int) == (11:Int))
   .
    have F:=ag x;refine lB 36 x (lL a ac (ah (aD ?_)));cases H:((op:Int) == (8:Int))
    .
     have zc:=ag H;refine lB 40 H (lL a ac (ah (cK (aa a aK (lV 48 (iV (min (sm:Int) (1001:Int))) ?_ (hr:=be (n:=(if (1001:Int)<(sm:Int) then (1001:Int) else (sm:Int))) kR (by simp only[uN])))))));refine lL a ac (lN (kX ?_));have j:k=ks.length:=by omega
     have e:=iP (d:=d) (op:=op) (n:=n) (q:=q) (s:=s) (ks:=ks) oM;have b:=k5 (s:=(ew (fun i=>ba d (ks.getD i ct)) k)) (bg op n);rw[<-j] at e
     rw[<-e,<-z] at b
     exact a.ret [] (iV (min (sm:Int) (1001:Int))) (congrArg (Value.int .i64) (by rw[<-b];unfold br;first|(rw[if_pos oM];(repeat' split)<;>omega)|(rw[if_neg oM,if_pos oM,yT];(repeat' split)<;>omega)|(rw[if_neg oM,if_neg oM];(repeat' split)<;>omega)))
    have zc:=eq_of_beq H;refine lB 40 H (lL a ac (au (kQ (lL a [.c,.v (qP B 1),.o (iV n) 0 1 1] (am 44 a (EC n oM oM _ _ a.g) (fun _ _ a=>?_))))));have W:aG n<=12/\1<=aG n:=by unfold aG;split<;>omega
    have hmb:sm*aG n<=1001*12:=Nat.mul_le_mul oM oM;refine lI 45 ((sm:Nat)*(aG n:Nat)) (lL a ac (aR (lL a aK (lV 48 (iV (min ((sm:Nat)*(aG n:Nat):Int) (1001:Int))) ?_ (hr:=be (n:=(if (1001:Int)<((sm:Nat)*(aG n:Nat):Int) then (1001:Int) else ((sm:Nat)*(aG n:Nat):Int))) kR (by simp only[uN]))))));refine lL a ac (lN (kX ?_));have j:k=ks.length:=by omega
    have e:=iP (d:=d) (op:=op) (n:=n) (q:=q) (s:=s) (ks:=ks) oM;have b:=k5 (s:=(ew (fun i=>ba d (ks.getD i ct)) k)) (bg op n);rw[<-j] at e
    rw[<-e,<-z] at b
    exact a.ret [] (iV (min ((sm:Nat)*(aG n:Nat):Int) (1001:Int))) (congrArg (Value.int .i64) (by rw[<-b];unfold br;first|(rw[if_pos oM];(repeat' split)<;>omega)|(rw[if_neg oM,if_pos oM,yT];(repeat' split)<;>omega)|(rw[if_neg oM,if_neg oM];(repeat' split)<;>omega)))
   have F:=eq_of_beq x;refine lB 36 x (lL a ac (au (kQ (lL a ac (lI 38 ((sm:Nat)*2) ?_)))));refine lL a ac (aR (lL a aK (lV 48 (iV (min ((sm:Nat)*2:Int) (1001:Int))) ?_ (hr:=be (n:=(if (1001:Int)<((sm:Nat)*2:Int) then (1001:Int) else ((sm:Nat)*2:Int))) kR (by simp only[uN])))));refine lL a ac (lN (kX ?_));have j:k=ks.length:=by omega
   have e:=iP (d:=d) (op:=op) (n:=n) (q:=q) (s:=s) (ks:=ks) oM;have b:=k5 (s:=(ew (fun i=>ba d (ks.getD i ct)) k)) (bg op n);rw[<-j] at e
   rw[<-e,<-z] at b
   exact a.ret [] (iV (min ((sm:Nat)*2:Int) (1001:Int))) (congrArg (Value.int .i64) (by rw[<-b];unfold br;first|(rw[if_pos oM];(repeat' split)<;>omega)|(rw[if_neg oM,if_pos oM,yT];(repeat' split)<;>omega)|(rw[if_neg oM,if_neg oM];(repeat' split)<;>omega)))
  have D:=oT l;refine lB 18 l (af (cl (cK (cQ (kZ (aD (lX 19 A ps.length c 9 (k:Nat) k ((a.f.2.1).ok oM) ?_)))))));refine lH 20 (ar (ps.getD k aE)) a ((a.f.2.1).el k oM) (lA 7 32 a2 a (fun b13 _ _ a=>lP 0 0 (aI (ps.getD k aE)) a (fun _ a=>aR (lL a [.c,.o (ar (ps.getD k aE)) 0 0 9,.c] (am 24 a (ih (ps.getD k aE) (ks.getD k ct) _ _ a.g ((a.f.1).at_ k oM) (hW k oM)) (fun _ X a=>lI 25 ((sm:Nat)+((min (ba d (ks.getD k ct)) 1001:Nat):Int)) (lL a ac (lV 27 (iV ((min (ew (fun i=>ba d (ks.getD i ct)) (k+1)) 1001:Nat):Int)) ?_ (hr:=be (n:=if (1001:Int)<((sm:Nat)+((min (ba d (ks.getD k ct)) 1001:Nat):Int)) then (1001:Int) else ((sm:Nat)+((min (ba d (ks.getD k ct)) 1001:Nat):Int))) kR (by split<;>omega))))))))));refine lL a ac (aR (lL a aK ?_));cases I:((((min (ew (fun i=>ba d (ks.getD i ct)) (k+1)) 1001:Nat):Int):Int) == (1001:Int))
  .
   have zd:=ag I;refine lB 30 I (ah (cK (kQ (bI 32 ((k:Nat)+1) (k+1) ?_))));refine lL a ac (lD ?_);intro a_ Y;replace a:=a.drop 1 0;refine ⟨_,_,?_,⟨k+1,(min (ew (fun i=>ba d (ks.getD i ct)) (k+1)) 1001),X,rfl,rfl,a.to _ _,oM,rfl⟩,Y.to _ kR⟩
   omega
  have zd:=eq_of_beq I;exact lB 30 I (au (aa a aK (ae a [] (iV 1001) (congrArg (Value.int .i64) (by have V:=tZ (fun i=>ba d (ks.getD i ct)) (show k+1<=ks.length by omega);have Z:=qx (d:=d) (op:=op) (n:=n) (q:=q) (s:=s) (ks:=ks) oM;omega)))))
 have C:=eq_of_beq u;exact lB 11 u (au (aa a [.c,.v (iV 1),.c] (ae a [] (iV 1) (congrArg (Value.int .i64) (by rw[gL oM];first|rfl|omega)))))
theorem p8 (ok:ByteArray->Prop):∀ (d:Nat) (p:PTm) (t:Tm) (w:World) (h:Hp),G w h->TmH d h p t->WfT ok d t ->  Calls Tryz.prog 61 #[ar p,iV 1001] w (Ret w h (fun v _=>v=iV ((min (ba d t) 1001:Nat):Int)))
  | 0,_,_,_,_,_,x,_=>x.elim
  | d + 1,p,t,w,h,g,x,wf=>by
    obtain ⟨op,n,q,s,A,c,ps,ks,rfl,rfl,j,u,a⟩:=x.open;obtain ⟨w1,w2,w3,w4,i,e,o,f,l⟩:=wf
    have b:ps.length<=2:=by
      have e1:dU op=ks.length:=w1;have:=az op;have:=a.len
      omega
    exact xU ok d (fun p t w h=>p8 ok d p t w h) op n q s A c ps ks j b w1 w2 w3 w4 i e o f l w h g u a
structure PLt where
  s:ByteArray
  q:Rat
def cv:PLt:=⟨⟨#[]⟩,0⟩
def qh (p:PLt):List Value:=[.string p.s,.bool (aw p.q.num),.int .u64 (lo (ab p.q.num)),.string (hi (ab p.q.num)),.int .u64 (lo (qd p.q)),.string (hi (qd p.q))]
structure RLt where
  s:ByteArray
  neg:Bool
  zA:Z9
  zn:Nat
  zc:Nat
  dA:Z9
  dn:Nat
  dc:Nat
def RLt.t (r:RLt):RT:=(r.neg,.slice r.zA r.zn r.zc,.slice r.dA r.dn r.dc)
def Gq:RLt:=⟨⟨#[]⟩,false,none,0,0,none,0,0⟩
structure RLs (h:Hp) (rs:List RLt) (ps:List PLt):Prop where
  len:rs.length=ps.length
  at_:∀ i,i<ps.length->(rs.getD i Gq).s=(ps.getD i cv).s/\RZ h (rs.getD i Gq).t (ps.getD i cv).q
def qu:List PLt->ByteArray->Option Rat
  | [],_=>none
  | x::l,s=>if x.s=s then some x.q else qu l s
theorem wy {s:ByteArray}:∀ {l:List PLt} {k:Nat},(∀ i,i<k->(l.getD i cv).s≠s)->k<l.length->(l.getD k cv).s=s->qu l s=some (l.getD k cv).q
  | x::l,0,_,_,h=>if_pos h
  | x::l,k+1,h,hk,e=>by
    show (if x.s=s then _ else _)=_
    rw[if_neg (show ¬x.s=s from h 0 (JO _))];exact wy (l:=l) (k:=k) (fun i hi=>h (i+1) oM) (by simpa using hk) e
theorem xD {s:ByteArray}:∀ {l:List PLt},(∀ i,i<l.length->(l.getD i cv).s≠s)->qu l s=none
  | [],_=>rfl
  | x::l,h=>by
    show (if x.s=s then _ else _)=_
    rw[if_neg (show ¬x.s=s from h 0 (JO _))];exact xD (fun i hi=>h (i+1) (by simpa using hi))
theorem uL {s:ByteArray}{q:Rat}{B:Nat}:∀ {l:List PLt},(∀ i,LQ B (l.getD i cv).q)->qu l s=some q->LQ B q
  | x::l,h,e=>by
    unfold qu at e
    split at e
    . injection e with e;rw[<-e];exact h 0
    . exact uL (fun i=>h (i+1)) e
def lZ (op n:Int)(q:Rat)(e1 e2:Int)(a b:Rat):Int × Rat :=
  if e1≠0 then (e1,0) else if e2≠0 then (e2,0) else if ke op n a b then (0,gh op n q a b) else (6,0)
def bc (L:List PLt):Nat->Tm->Int × Rat
  | 0,_=>(0,0)
  | d + 1,t =>
    if t.op=2 then (match qu L t.s with|some q=>(0,q)|none=>(11,0))
    else
      let x:=if 0<t.ks.length then bc L d (t.ks.getD 0 ct) else (0,0)
      let y:=if 1<t.ks.length then bc L d (t.ks.getD 1 ct) else (0,0)
      lZ t.op t.n t.q x.1 y.1 x.2 y.2
theorem j0 {L:List PLt}{d:Nat}{op n:Int}{q:Rat}{s:ByteArray}{ks:List Tm}{v:Rat}(h:op=2)(e:qu L s=some v):bc L (d+1) (.mk op n q s ks)=(0,v):=by
 show (if op=2 then (match qu L s with|some q=>((0:Int),q)|none=>(11,0)) else _)=_;rw[if_pos h,e]
theorem oq {L:List PLt}{d:Nat}{op n:Int}{q:Rat}{s:ByteArray}{ks:List Tm}(h:op=2)(e:qu L s=none):bc L (d+1) (.mk op n q s ks)=(11,0):=by
 show (if op=2 then (match qu L s with|some q=>((0:Int),q)|none=>(11,0)) else _)=_;rw[if_pos h,e]
theorem mN {L:List PLt}{d:Nat}{op n:Int}{q:Rat}{s:ByteArray}(h:op≠2):bc L (d+1) (.mk op n q s [])=lZ op n q 0 0 0 0:=if_neg h
theorem fS {L:List PLt}{d:Nat}{op n:Int}{q:Rat}{s:ByteArray}{a:Tm}(h:op≠2):bc L (d+1) (.mk op n q s [a])=lZ op n q (bc L d a).1 0 (bc L d a).2 0:=if_neg h
theorem gK {L:List PLt}{d:Nat}{op n:Int}{q:Rat}{s:ByteArray}{b a:Tm}(h:op≠2):bc L (d+1) (.mk op n q s [b,a])=lZ op n q (bc L d b).1 (bc L d a).1 (bc L d b).2 (bc L d a).2:=if_neg h
section
variable {op n:Int}{q a b:Rat}{e1 e2:Int}
theorem CT (h:e1≠0):lZ op n q e1 e2 a b=(e1,0):=if_pos h
theorem Ha (h1:e1=0)(h:e2≠0):lZ op n q e1 e2 a b=(e2,0):=by unfold lZ;rw[if_neg oM,if_pos h]
theorem dy (h1:e1=0)(c:e2=0)(h:ke op n a b):lZ op n q e1 e2 a b=(0,jB op n q a b):=by unfold lZ jB;rw[if_neg oM,if_neg oM,if_pos h,if_pos h]
theorem uU (h1:e1=0)(c:e2=0)(h:¬ke op n a b):lZ op n q e1 e2 a b=(6,0):=by unfold lZ;rw[if_neg oM,if_neg oM,if_neg h]
end
theorem oY {a:Rat}:dm a 1=a:=by
 have h1:((1:Int):Rat)=1:=rfl
 show ((1:Int):Rat)*a=a
 rw[h1];grind
theorem sV {a:Rat}{K:Nat}{n:Int}(f:1<=K)(h:LQ K a):LQ (aG n*(K+2)-2) (dm a n):=by
  unfold aG
  by_cases h1:n.natAbs<=1
  . rw[if_pos h1]
    have c:n=0\/n=1\/n = -1:=by omega
    rcases c with rfl|rfl|rfl
    . exact (LQ.lit (z:=1) kD).mono oM
    . rw[oY];exact h.mono oM
    . have e:dm a (-1)=a⁻¹:=by
        have h1:((1:Int):Rat)=1:=rfl
        show ((1:Int):Rat)/(((1:Int):Rat)*a)=a⁻¹
        rw[h1];rw[Rat.one_mul,Rat.div_def,Rat.one_mul]
      rw[e];exact h.inv.mono oM
  . rw[if_neg h1]
    have b:=gC h n.natAbs;have d:n.natAbs*(K+2)=n.natAbs*K+n.natAbs*2:=Nat.mul_add _ _ _
    unfold dm
    split
    . exact b.mono oM
    . exact ((LQ.lit (z:=1) kD).div b).mono oM
theorem mj {op n:Int}{q a b:Rat}{e1 e2:Int}{wa wb c:Nat}(u:3<=c)(j:1<=wa)(ha:LQ (c*wa-2) a)(hb:1<=wb->LQ (c*wb-2) b)(d:dU op=2->1<=wb)(p:LQ 1 q)(x:3<=op/\op<=13) :
    LQ (c*(br op n*(wa+wb))-2) (lZ op n q e1 e2 a b).2:=by
  obtain ⟨M,hM⟩:∃ M,M=br op n*(wa+wb):=⟨_,rfl⟩;have w1:=bg op n;have l:wa+wb<=br op n*(wa+wb):=J5 _ w1;rw[<-hM] at l ⊢
  have h0:LQ 1 (0:Rat):=LQ.lit (z:=0) kD;have hm:=j;have C:c*(wa+wb)<=c*M:=y9 _ l;have m2:c*(wa+wb)=c*wa+c*wb:=Nat.mul_add _ _ _;have y:c<=c*wa:=KP _ j;have hz:LQ (c*M-2) (0:Rat):=h0.mono oM
  suffices h:LQ (c*M-2) (gh op n q a b) by
    unfold lZ
    split
    . exact hz
    . split
      . exact hz
      . split
        . exact h
        . exact hz
  unfold gh
  split
  . exact p.mono oM
  split
  . rename_i h;have w2:=d (by rw[h];rfl);have f:c<=c*wb:=KP _ w2;exact (ha.add (hb w2)).mono oM
  split
  . rename_i h;have w2:=d (by rw[h];rfl);have f:c<=c*wb:=KP _ w2;exact (ha.sub (hb w2)).mono oM
  split
  . rename_i h;have w2:=d (by rw[h];rfl);have f:c<=c*wb:=KP _ w2;exact (ha.mul (hb w2)).mono oM
  split
  . rename_i h;have w2:=d (by rw[h];rfl);have f:c<=c*wb:=KP _ w2;exact (ha.div (hb w2)).mono oM
  split
  . exact ha.neg.mono oM
  split
  . rename_i o
    have e:br op n=aG n:=by unfold br;rw[if_neg oM,if_pos o]
    have d:=sV (n:=n) oM ha
    have e2:aG n*(c*wa-2+2)<=c*(aG n*(wa+wb)):=by
      rw[show c*wa-2+2=c*wa by omega,KQ];exact y9 _ (y9 _ (KL _ _))
    rw[e] at hM
    rw[<-hM] at e2
    exact d.mono (Nat.sub_le_sub_right e2 2)
  split
  . exact ha.abs.mono oM
  split
  . exact (LQ.maxR ha (h0.mono (by omega:1<=c*wa-2))).mono oM
  split
  . rename_i i
    have e:br op n=2:=by unfold br;rw[if_pos i]
    rw[e] at hM
    have B:c*M=2*(c*(wa+wb)):=by rw[hM,KQ]
    exact (ha.div (ha.abs.add (LQ.lit (z:=1) kD))).mono oM
  split
  . rename_i h;have w2:=d (by rw[h];rfl);have f:c<=c*wb:=KP _ w2
    unfold maxR;split
    . exact (hb w2).mono oM
    . exact ha.mono oM
  . have w2 := d (by have:op=13:=by omega
                     rw[this];rfl)
    have f:c<=c*wb:=KP _ w2
    unfold mh;split
    . exact (hb w2).mono oM
    . exact ha.mono oM
theorem dY {ks:List Tm}{op:Int}(h:dU op=ks.length):ks=[]\/(∃ t,ks=[t])\/∃ t u,ks=[t,u]:=by
 have:=az op
 rcases ks with _|⟨t,_|⟨u,_|⟨v,l⟩⟩⟩
 ·exact .inl rfl
 ·exact .inr (.inl ⟨t,rfl⟩)
 ·exact .inr (.inr ⟨t,u,rfl⟩)
 ·simp only[ul] at h;omega
theorem nr {ok:ByteArray->Prop}{L:List PLt}{c:Nat}(a:3002<=c)(l:∀ i,LQ (c-2) (L.getD i cv).q):∀ {d:Nat} {t:Tm},WfT ok d t->1<=ba d t/\LQ (c*ba d t-2) (bc L d t).2
  | d + 1,.mk op n q s ks,⟨h1,h2,o,h4,h5,h6,h7,h8,h9⟩=>by
    have h0:LQ 1 (0:Rat):=LQ.lit (z:=0) kD;have p:=az op;replace h1:dU op=(ks.length:Nat):=h1;replace o:LQ 3000 q:=o;have f:op≠1->LQ 1 q:=fun h=>(show q=0 from h2 h)▸h0
    rcases dY h1 with rfl|⟨t,rfl⟩|⟨t,u,rfl⟩
    . have e:ba (d+1) (.mk op n q s [])=1:=gL rfl
      rw[e,Nat.mul_one];refine ⟨ep _,?_⟩
      by_cases o2:op=2
      . cases e2:qu L s with
        | none=>rw[oq o2 e2];exact h0.mono oM
        | some v=>rw[j0 o2 e2];exact (uL l e2).mono oM
      . have o1:op=1:=by simp only[KR] at h1;omega
        rw[mN o2];unfold lZ;rw[if_neg kD,if_neg kD]
        split
        . show LQ _ (gh op n q 0 0);rw[o1];exact o.mono oM
        . exact h0.mono oM
    . have i1:=nr a l (h9 0 (JO _))
      obtain ⟨i1,b⟩:=i1;replace i1:1<=ba d t:=i1;replace b:LQ (c*ba d t-2) (bc L d t).2:=b
      simp only[ul,KR] at h1
      have e:ba (d+1) (.mk op n q s [t])=br op n*(ba d t+0):=by rw[iP (show [t].length≠0 from KS _)];show _*(0+ba d t)=_;rw[yl,ya]
      rw[e,fS oM];have w1:=bg op n;exact ⟨eu i1 (J5 _ w1),mj oM i1 b (fun h=>absurd h kD) oM (f oM) oM⟩
    . have i1:=nr a l (h9 0 (JO _))
      have j:=nr a l (h9 1 (by show 1<2;decide));obtain ⟨i1,b⟩:=i1;obtain ⟨j,j2⟩:=j;replace i1:1<=ba d t:=i1;replace b:LQ (c*ba d t-2) (bc L d t).2:=b;replace j:1<=ba d u:=j;replace j2:LQ (c*ba d u-2) (bc L d u).2:=j2
      simp only[ul,KR] at h1
      have e:ba (d+1) (.mk op n q s [t,u])=br op n*(ba d t+ba d u):=by rw[iP (show [t,u].length≠0 from KS _)];show _*(0+ba d t+ba d u)=_;rw[yl]
      rw[e,gK oM];have w1:=bg op n;exact ⟨eu oM (J5 _ w1),mj oM i1 b (fun _=>j2) (fun _=>j) (f oM) oM⟩
theorem p7 {d m:Nat}{op n:Int}{q:Rat}{s:ByteArray}{a:Tm}(h:ba (d+1) (.mk op n q s [a])<=m):ba d a<=m:=by
 have b:=qx (d:=d) (op:=op) (n:=n) (q:=q) (s:=s) (ks:=[a]) (KS _);have e:ew (fun i=>ba d (([a]:List Tm).getD i ct)) ([a]:List Tm).length=0+ba d a:=rfl
 omega
theorem qm {d m:Nat}{op n:Int}{q:Rat}{s:ByteArray}{b a:Tm}(h:ba (d+1) (.mk op n q s [b,a])<=m):ba d b<=m/\ba d a<=m:=by
 have c:=qx (d:=d) (op:=op) (n:=n) (q:=q) (s:=s) (ks:=[b,a]) (KS _);have e:ew (fun i=>ba d (([b,a]:List Tm).getD i ct)) ([b,a]:List Tm).length=0+ba d b+ba d a:=rfl
 omega
theorem kj {α:Type}:∀ {l:List α},l.length=2->∃ a b,l=[a,b]
 | [a,b],_=>⟨a,b,rfl⟩
 | [],h=>by simp only[KR] at h;omega
 | [_],h=>by simp only[ul,KR] at h;omega
 | _::_::_::_,h=>by simp only[ul] at h;omega
theorem qI {ok:ByteArray->Prop}{L:List PLt}{c:Nat}(a:3002<=c)(e:∀ i,LQ (c-2) (L.getD i cv).q){d:Nat}{t:Tm}(h:WfT ok d t)(b:ba d t<=1000):LQ (c*1000) (bc L d t).2 :=
 (nr a e h).2.mono (eu (Nat.sub_le _ _) (y9 _ b))
def EvR (ok:ByteArray->Prop)(L:List PLt)(d:Nat)(t:Tm)(e:Int)(x:Rat):Prop :=
  (WfT ok d t/\ba d t<=1000/\e=(bc L d t).1/\x=(bc L d t).2)\/(¬(WfT ok d t/\ba d t<=1000)/\e=1/\x=0)
theorem jN {ok:ByteArray->Prop}{d:Nat}{t:Tm}{e:Int}(h:(WfT ok d t/\e=(if 1000<ba d t then 18 else 0))\/(¬WfT ok d t/\e=2))(h0:e=0):WfT ok d t/\ba d t<=1000:=by
 rcases h with ⟨h1,h2⟩|⟨h1,h2⟩
 ·refine ⟨h1,?_⟩;split at h2<;>omega
 ·omega
theorem D6 {ok:ByteArray->Prop}{d:Nat}{t:Tm}{e:Int}(h:(WfT ok d t/\e=(if 1000<ba d t then 18 else 0))\/(¬WfT ok d t/\e=2))(h0:e≠0):¬(WfT ok d t/\ba d t<=1000):=by
 rcases h with ⟨h1,h2⟩|⟨h1,h2⟩
 ·intro a;rw[if_neg oM] at h2;exact h0 h2
 ·exact fun a=>h1 a.1
def oK (m:Nat)(op n:Int)(x y:Int × Rat × List Rat):Int × Rat × List Rat :=
  if x.1≠0 then (x.1,0,[]) else if y.1≠0 then (y.1,0,[]) else if co op n x.2.1 y.2.1≠0 then (co op n x.2.1 y.2.1,0,[])
  else (0,gh op n 0 x.2.1 y.2.1,(hO m).map fun i=>Dh op n x.2.1 y.2.1*x.2.2.getD i 0+Df op x.2.1 y.2.1*y.2.2.getD i 0)
def bB (ix:ByteArray->Nat)(at_:List Rat):Nat->Tm->Int × Rat × List Rat
  | 0,_=>(0,0,[])
  | d+1,t =>
    if t.op=1 then (0,t.q,yp at_.length 0)
    else if t.op=2 then (0,at_.getD (ix t.s) 0,d6 at_.length (ix t.s))
    else oK at_.length t.op t.n (if 0<t.ks.length then bB ix at_ d (t.ks.getD 0 ct) else (0,0,[])) (if 1<t.ks.length then bB ix at_ d (t.ks.getD 1 ct) else (0,0,[]))
section
variable {ix:ByteArray->Nat}{at_ way:List Rat}
theorem mJ {m:Nat}{op n:Int}{x y:Int × Rat × List Rat}(h:x.1≠0):oK m op n x y=(x.1,0,[]):=if_pos h
theorem oB {m:Nat}{op n:Int}{x y:Int × Rat × List Rat}(h:x.1=0)(a:y.1≠0):oK m op n x y=(y.1,0,[]):=by unfold oK;rw[if_neg (fun k=>k h),if_pos a]
theorem mS {m:Nat}{op n:Int}{x y:Int × Rat × List Rat}(h:x.1=0)(b:y.1=0)(a:co op n x.2.1 y.2.1≠0):oK m op n x y=(co op n x.2.1 y.2.1,0,[]):=by unfold oK;rw[if_neg (fun k=>k h),if_neg (fun k=>k b),if_pos a]
def jI (m:Nat)(op n:Int)(a b:Rat)(ga gb:List Rat):List Rat:=(hO m).map fun i=>Dh op n a b*ga.getD i 0+Df op a b*gb.getD i 0
theorem duG_len {m:Nat}{op n:Int}{a b:Rat}{ga gb:List Rat}:(jI m op n a b ga gb).length=m:=by unfold jI;simp
theorem mH {m:Nat}{op n:Int}{x y:Int × Rat × List Rat}(h:x.1=0)(b:y.1=0)(a:co op n x.2.1 y.2.1=0):oK m op n x y=(0,gh op n 0 x.2.1 y.2.1,jI m op n x.2.1 y.2.1 x.2.2 y.2.2):=by unfold oK;rw[if_neg (fun k=>k h),if_neg (fun k=>k b),if_neg (fun k=>k a)];rfl
end
theorem jx {f:Nat->Rat}{m i:Nat}(h:i<m):((hO m).map fun i=>f i).getD i 0=f i:=by simp[h]
theorem E3 {f:Nat->Rat}{m i:Nat}(h:m<=i):((hO m).map fun i=>f i).getD i 0=0:=dq (by simp;exact h)
theorem l9 {f:Nat->Rat}{m K:Nat}(h:∀ i,LQ K (f i))(a:1<=K)(j:Nat):LQ K (((hO m).map fun i=>f i).getD j 0):=Fh a h j
theorem eo (i:Nat):([]:List Rat).getD i 0=0:=by simp
theorem fj (m i:Nat):(yp m (0:Rat)).getD i 0=0:=ve i
section
variable {m:Nat}{op n:Int}{a b:Rat}{ga gb:List Rat}{f:Nat->Rat}
theorem iY (h:∀ i,i<m->f i=Dh op n a b*ga.getD i 0+Df op a b*gb.getD i 0):((hO m).map fun i=>f i)=jI m op n a b ga gb:=by
 unfold jI
 exact KT fun i hi=>h i (hP.1 hi)
theorem gB {G:List Rat}(c:G.length=m)(h:∀ i,i<m->G.getD i 0=Dh op n a b*ga.getD i 0+Df op a b*gb.getD i 0):G=jI m op n a b ga gb:=by
 refine jn (c.trans duG_len.symm) fun i=>?_
 by_cases hi:i<m
 ·rw[h i hi];unfold jI;rw[jx hi]
 ·rw[dq oM,dq (by rw[duG_len];omega)]
theorem dz (h1:op=6->b≠0)(h:op=8->n<0->a≠0)(e:(op=9\/op=10)->a≠0)(f:(op=12\/op=13)->a≠b):co op n a b=0:=by
 unfold co
 rw[if_pos ⟨h1,h⟩,if_neg];rintro (⟨d,c⟩|⟨d,c⟩)
 ·exact e d c
 ·exact f d c
theorem CM (h:(op=6/\b=0)\/(op=8/\n<0/\a=0)):co op n a b=6:=if_neg (fun k=>by
 rcases h with ⟨h1,h2⟩|⟨h1,h2,h3⟩
 ·exact k.1 h1 h2
 ·exact k.2 h1 h2 h3)
theorem Cy (h:(op=9\/op=10)/\a=0\/(op=12\/op=13)/\a=b):co op n a b=7:=by
 unfold co
 rw[if_pos ⟨fun e=>by omega,fun e=>by omega⟩,if_pos (show Gg op a b from h)]
end
section
variable {m:Nat}{n:Int}{a:Rat}{ga:List Rat}
theorem Jb:a*((-1:Int):Rat)=gh 7 n 0 a 0/\((hO m).map fun i=>ga.getD i 0*((-1:Int):Rat))=jI m 7 n a 0 ga []:=by
 refine ⟨?_,iY fun i _=>?_⟩
 ·show a*((-1:Int):Rat) = -a
  rw[CK];grind
 ·rw[eo]
  show ga.getD i 0*((-1:Int):Rat) = -((1:Int):Rat)*ga.getD i 0+0*0
  rw[CK,i1];grind
theorem HT {a:Rat}(h:0<a.num.sign):0<a:=n4.1 h
theorem Io {a:Rat}(h:a.num.sign<0):a<0:=by
 have:a.num<0:=KU.1 (by have:=KV a.num;omega);rw[<-KW,<-KG];omega
theorem Be {a:Rat}(h:a.num.sign=0):a=0:=KH.1 (KM.1 h)
theorem j7 {a:Rat}(h:a.num.sign≠0):a≠0:=fun e=>h (by rw[e];rfl)
theorem sL {a:Rat}(h:a≠0):a.num≠0:=fun e=>h (KH.1 e)
theorem xA {a:Rat}(h:0<a.num.sign):a.num.sign=1:=by have:=KV a.num;omega
theorem pV {a:Rat}(h:a.num.sign<0):a.num.sign = -1:=by have:=KV a.num;omega
theorem IE {op:Int}(c:op=9\/op=10)(b:ga.length=m)(h:0<a.num.sign):a=gh op n 0 a 0/\ga=jI m op n a 0 ga []:=by
 have p:=HT h
 rcases c with rfl|rfl
 ·refine ⟨?_,gB b fun i _=>?_⟩
  ·show a=a8 a
   unfold a8;rw[if_neg (by have:=xA h;have:=Int.sign_eq_one_iff_pos.1 this;omega)]
  ·rw[eo]
   show ga.getD i 0=((a.num.sign:Int):Rat)*ga.getD i 0+0*0
   rw[xA h,i1];grind
 ·refine ⟨?_,gB b fun i _=>?_⟩
  ·show a=maxR a 0
   unfold maxR;split
   ·grind
   ·rfl
  ·rw[eo]
   show ga.getD i 0=((max a.num.sign 0:Int):Rat)*ga.getD i 0+0*0
   rw[xA h,show max (1:Int) 0=1 from rfl,i1];grind
theorem JE (h:a.num.sign<0):a*((-1:Int):Rat)=gh 9 n 0 a 0/\((hO m).map fun i=>ga.getD i 0*((-1:Int):Rat))=jI m 9 n a 0 ga []:=by
 refine ⟨?_,iY fun i _=>?_⟩
 ·show _=a8 a
  unfold a8;rw[if_pos (by have:=KU.1 (pV h);omega),CK];grind
 ·rw[eo]
  show ga.getD i 0*((-1:Int):Rat)=((a.num.sign:Int):Rat)*ga.getD i 0+0*0
  rw[pV h,CK];grind
theorem I0 (h:a.num.sign<0):(0:Rat)=gh 10 n 0 a 0/\yp m (0:Rat)=jI m 10 n a 0 ga []:=by
 have p:=Io h;refine ⟨?_,gB KX fun i _=>?_⟩
 ·show (0:Rat)=maxR a 0
  unfold maxR;split
  ·rfl
  ·grind
 ·rw[eo,fj]
  show (0:Rat)=((max a.num.sign 0:Int):Rat)*ga.getD i 0+0*0
  rw[pV h,show max (-1:Int) 0=0 from rfl,i0];grind
theorem B4 {x:Rat}{a b:List Rat}{k:Nat}(d:a.length=m)(c:∀ i,b.getD i 0=((k:Int):Rat)*bL x (k-1)*a.getD i 0)(i:Nat) :
  ((hO m).map fun i=>b.getD i 0*x+bL x k*a.getD i 0).getD i 0=(((k+1:Nat):Int):Rat)*bL x (k+1-1)*a.getD i 0:=by
 by_cases hi:i<m
 ·rw[jx hi,c i]
  have e:(((k+1:Nat):Int):Rat)=((k:Int):Rat)+1:=by push_cast;rfl
  have e2:((k:Int):Rat)*bL x (k-1)*x=((k:Int):Rat)*bL x k:=by
   cases k with
   | zero=>show ((0:Int):Rat)*_*_=((0:Int):Rat)*_;rw[i0];grind
   | succ k=>show _*bL _ k*_=_*(bL _ k*_);grind
  rw[e]
  show _=(((k:Int):Rat)+1)*bL x k*a.getD i 0
  grind
 ·rw[E3 oM,dq (show a.length<=i by omega)];grind
theorem H9 (f:0<=n){b:List Rat}{k:Nat}(hk:k=n.natAbs)(c:b.length=m)(d:∀ i,b.getD i 0=((k:Int):Rat)*bL a (k-1)*ga.getD i 0):bL a k=gh 8 n 0 a 0/\b=jI m 8 n a 0 ga []:=by
 refine ⟨?_,gB c fun i _=>?_⟩
 ·show _=dm a n
  unfold dm;rw[if_pos f,hk]
 ·rw[eo,d i]
  show _=(if n=0 then (0:Rat) else dm a (n-1)*((n:Int):Rat))*ga.getD i 0+0*0
  by_cases h0:n=0
  ·subst h0;subst hk;rw[if_pos rfl];show ((0:Int):Rat)*_*_=_;rw[i0];grind
  ·rw[if_neg h0]
   have e:dm a (n-1)=bL a (k-1):=by unfold dm;rw[if_pos oM,show (n-1).natAbs=k-1 by omega]
   rw[e,show ((k:Nat):Int)=n by omega];grind
theorem wH {a:Rat}(h:a≠0):∀ k,bL (((1:Int):Rat)/a) k=((1:Int):Rat)/bL a k
  | 0=>by show ((1:Int):Rat)=((1:Int):Rat)/((1:Int):Rat);rw[i1];grind
  | k+1=>by
    show bL (((1:Int):Rat)/a) k*(((1:Int):Rat)/a)=((1:Int):Rat)/(bL a k*a)
    have:=ku h k;rw[wH h k,i1];grind
theorem Iv (o:n<0)(ha:a≠0){c b:List Rat}{k:Nat}(hk:k=n.natAbs)(d:b.length=m)(f:c=(hO m).map fun i=>ga.getD i 0*(-((((1:Int):Rat)/a)*(((1:Int):Rat)/a))))(h:∀ i,b.getD i 0=((k:Int):Rat)*bL (((1:Int):Rat)/a) (k-1)*c.getD i 0):bL (((1:Int):Rat)/a) k=gh 8 n 0 a 0/\b=jI m 8 n a 0 ga []:=by
 obtain ⟨j,rfl⟩:∃ j,k=j+1:=⟨k-1,by omega⟩;have l:=ku ha j;refine ⟨?_,gB d fun i hi=>?_⟩
 ·show _=dm a n
  unfold dm;rw[if_neg oM,wH ha,hk]
 ·rw[eo,h i,f,jx hi]
  show _=(if n=0 then (0:Rat) else dm a (n-1)*((n:Int):Rat))*ga.getD i 0+0*0
  rw[if_neg oM]
  have e:dm a (n-1)=((1:Int):Rat)/(bL a j*a*a):=by
   unfold dm;rw[if_neg oM,show (n-1).natAbs=j+2 by omega];rfl
  have e2:((n:Int):Rat) = -(((j+1:Nat):Int):Rat):=by rw[show n = -((j+1:Nat):Int) by omega,Rat.intCast_neg]
  rw[e,e2,show j+1-1=j from rfl,wH ha,i1]
  grind
theorem IW {s:Rat}{f:List Rat}(j:s=a8 a)(l:∀ i,i<m->f.getD i 0=(if a.num.sign<0 then ga.getD i 0*((-1:Int):Rat) else ga.getD i 0)) :
  a*(((1:Int):Rat)/(s+((1:Int):Rat)))=gh 11 n 0 a 0/\((hO m).map fun i=>ga.getD i 0*(((1:Int):Rat)/(s+((1:Int):Rat)))+a*((hO m).map fun i=>((hO m).map fun i=>f.getD i 0+(yp m (0:Rat)).getD i 0).getD i 0*(-((((1:Int):Rat)/(s+((1:Int):Rat)))*(((1:Int):Rat)/(s+((1:Int):Rat)))))).getD i 0)=jI m 11 n a 0 ga []:=by
 have o:0<=a8 a:=by
  unfold a8;split
  ·rename_i h
   have:a<0:=by rw[<-KW,<-KG];omega
   grind
  ·rename_i h;exact KG.1 oM
 have b:a8 a+1≠0:=by grind
 subst j;refine ⟨?_,iY fun i hi=>?_⟩
 ·show _=a/(a8 a+((1:Int):Rat))
  rw[i1];grind
 ·rw[eo,jx hi,jx hi,fj,l i hi]
  show _=(((1:Int):Rat)/(((1:Int):Rat)+a8 a))*(((1:Int):Rat)/(((1:Int):Rat)+a8 a))*ga.getD i 0+0*0
  have e:((1:Int):Rat)+a8 a=a8 a+((1:Int):Rat):=KI _ _;rw[e]
  by_cases c:a.num.sign<0
  ·rw[if_pos c]
   have d:a8 a = -a:=by unfold a8;rw[if_pos (by have:=KU.1 (pV c);omega)]
   rw[d] at b ⊢
   rw[i1,CK];grind
  ·rw[if_neg c]
   have d:a8 a=a:=by unfold a8;rw[if_neg (fun h=>c (by have:=KU.2 h;omega))]
   rw[d] at b ⊢
   rw[i1];grind
end
section
variable {m:Nat}{n:Int}{a b:Rat}{ga gb:List Rat}
theorem Jj:((hO m).map fun i=>ga.getD i 0+gb.getD i 0)=jI m 3 n a b ga gb:=iY fun i _=>by
 show _=((1:Int):Rat)*ga.getD i 0+((1:Int):Rat)*gb.getD i 0
 rw[i1];grind
theorem Jv:a+b*((-1:Int):Rat)=gh 4 n 0 a b/\((hO m).map fun i=>ga.getD i 0+((hO m).map fun i=>gb.getD i 0*((-1:Int):Rat)).getD i 0)=jI m 4 n a b ga gb:=by
 refine ⟨?_,iY fun i hi=>?_⟩
 ·show _=a-b
  rw[CK];grind
 ·rw[jx hi]
  show _=((1:Int):Rat)*ga.getD i 0 + -((1:Int):Rat)*gb.getD i 0
  rw[i1,CK];grind
theorem JB:((hO m).map fun i=>ga.getD i 0*b+a*gb.getD i 0)=jI m 5 n a b ga gb:=iY fun i _=>by
 show _=b*ga.getD i 0+a*gb.getD i 0
 grind
theorem Jg (h:b≠0):a*(((1:Int):Rat)/b)=gh 6 n 0 a b/\((hO m).map fun i=>ga.getD i 0*(((1:Int):Rat)/b)+a*((hO m).map fun i=>gb.getD i 0*(-((((1:Int):Rat)/b)*(((1:Int):Rat)/b)))).getD i 0)=jI m 6 n a b ga gb:=by
 refine ⟨?_,iY fun i hi=>?_⟩
 ·show _=a/b
  rw[i1];grind
 ·rw[jx hi]
  show _=((1:Int):Rat)/b*ga.getD i 0 + -(a*(((1:Int):Rat)/b)*(((1:Int):Rat)/b))*gb.getD i 0
  rw[i1];grind
theorem Dm {op:Int}(d:ga.length=m)(h:op=12/\b<a\/op=13/\a<b):a=gh op n 0 a b/\ga=jI m op n a b ga gb:=by
 rcases h with ⟨rfl,h⟩|⟨rfl,h⟩
 ·refine ⟨?_,gB d fun i _=>?_⟩
  ·show a=maxR a b
   unfold maxR;rw[if_neg (by grind)]
  ·show _=(if b<a then ((1:Int):Rat) else 0)*_+(if b<a then (0:Rat) else ((1:Int):Rat))*_
   rw[if_pos h,if_pos h,i1];grind
 ·have c:¬b<a:=by grind
  refine ⟨?_,gB d fun i _=>?_⟩
  ·show a=mh a b
   unfold mh;rw[if_neg c]
  ·show _=(if b<a then (0:Rat) else ((1:Int):Rat))*_+(if b<a then ((1:Int):Rat) else 0)*_
   rw[if_neg c,if_neg c,i1];grind
theorem C0 {op:Int}(c:gb.length=m)(h:op=12/\a<b\/op=13/\b<a):b=gh op n 0 a b/\gb=jI m op n a b ga gb:=by
 rcases h with ⟨rfl,h⟩|⟨rfl,h⟩
 ·have d:¬b<a:=by grind
  refine ⟨?_,gB c fun i _=>?_⟩
  ·show b=maxR a b
   unfold maxR;rw[if_pos h]
  ·show _=(if b<a then ((1:Int):Rat) else 0)*_+(if b<a then (0:Rat) else ((1:Int):Rat))*_
   rw[if_neg d,if_neg d,i1];grind
 ·refine ⟨?_,gB c fun i _=>?_⟩
  ·show b=mh a b
   unfold mh;rw[if_pos h]
  ·show _=(if b<a then (0:Rat) else ((1:Int):Rat))*_+(if b<a then ((1:Int):Rat) else 0)*_
   rw[if_pos h,if_pos h,i1];grind
end
theorem jo (n:Int):aG (n-1)<=2*aG n:=by
 unfold aG
 split<;>split<;>omega
theorem D3 {a:Rat}{K:Nat}(b:1<=K):LQ K ((a.num.sign:Int):Rat):=by
 have:=kl a.num;exact (LQ.int oM oM).mono b
section
variable {op n:Int}{a b:Rat}{wa wb:Nat}
theorem BJ (l:1<=wa)(ha:LQ (3*wa-2) a)(hb:LQ (3*wb+1) b)(o : -12<=n/\n<=12):LQ (12*(br op n*(wa+wb))) (Dh op n a b):=by
  obtain ⟨M,hM⟩:∃ M,M=br op n*(wa+wb):=⟨_,rfl⟩;have w1:=bg op n;have d:wa+wb<=br op n*(wa+wb):=J5 _ w1;rw[<-hM] at d ⊢
  have h1:LQ 1 (((1:Int):Rat)):=LQ.lit (z:=1) kD;have h0:LQ (12*M) (0:Rat):=im oM
  unfold Dh
  split
  . exact h1.mono oM
  split
  . exact h1.mono oM
  split
  . exact hb.mono oM
  split
  . exact (h1.div hb).mono oM
  split
  . exact h1.neg.mono oM
  split
  . rename_i j
    split
    . exact h0
    . have e:br op n=aG n:=by unfold br;rw[if_neg oM,if_pos j]
      have h:=sV (n:=n-1) oM ha;have f:LQ 1 (((n:Int):Rat)):=LQ.int oM oM;have i:=jo n
      have k2:aG (n-1)*(3*wa-2+2)<=6*M:=by
        rw[show 3*wa-2+2=3*wa by omega,hM,e]
        calc aG (n-1)*(3*wa)<=2*aG n*(3*wa):=ym _ i
          _=6*(aG n*wa):=by rw[yW,KQ (aG n) 3 wa,<-yW]
          _<=6*(aG n*(wa+wb)):=y9 _ (y9 _ (KL _ _))
      exact (h.mul f).mono oM
  split
  . exact D3 oM
  split
  . have:=kl a.num
    exact (LQ.int oM oM).mono oM
  split
  . have c:=h1.add ha.abs
    exact ((h1.div c).mul (h1.div c)).mono oM
  split
  . split
    . exact h1.mono oM
    . exact h0
  split
  . split
    . exact h0
    . exact h1.mono oM
  . exact h0
theorem x5 (d:1<=wa)(ha:LQ (3*wa-2) a)(hb:LQ (3*wb+1) b):LQ (12*(br op n*(wa+wb))) (Df op a b):=by
 obtain ⟨M,hM⟩:∃ M,M=br op n*(wa+wb):=⟨_,rfl⟩;have w1:=bg op n;have c:wa+wb<=br op n*(wa+wb):=J5 _ w1;rw[<-hM] at c ⊢
 have h1:LQ 1 (((1:Int):Rat)):=LQ.lit (z:=1) kD;have h0:LQ (12*M) (0:Rat):=im oM
 unfold Df
 split
 ·exact h1.mono oM
 split
 ·exact h1.neg.mono oM
 split
 ·exact ha.mono oM
 split
 ·exact ((ha.mul (h1.div hb)).mul (h1.div hb)).neg.mono oM
 split
 ·split
  ·exact h0
  ·exact h1.mono oM
 split
 ·split
  ·exact h1.mono oM
  ·exact h0
 ·exact h0
theorem Fl (d:1<=wa)(ha:LQ (3*wa-2) a)(hb:1<=wb->LQ (3*wb-2) b)(f:dU op=2->1<=wb)(e:3<=op/\op<=13)(hk:ke op n a b):LQ (3*(br op n*(wa+wb))-2) (gh op n 0 a b):=by
 have:=mj (op:=op) (n:=n) (q:=0) (a:=a) (b:=b) (e1:=0) (e2:=0) (wa:=wa) (wb:=wb) (c:=3) (ep 3) d ha hb f (im kD) e;rw[dy rfl rfl hk] at this
 unfold jB at this
 rw[if_pos hk] at this
 exact this
theorem fL (h:co op n a b=0):ke op n a b:=Decidable.byContradiction fun k=>by
 have:co op n a b=6:=if_neg k
 omega
end
def Dk (W d:Nat)(x:Int × Rat × List Rat):Prop:=LQ (3*W-2) x.2.1/\∀ i,LQ (40*(W*d)) (x.2.2.getD i 0)
theorem Da {m:Nat}{op n:Int}{wa wb d:Nat}{x y:Int × Rat × List Rat}(e:1<=wa)(c:Dk wa d x)(a:1<=wb->Dk wb d y)(b:dU op=2->1<=wb)(h1:dU op=1->wb=0/\y.2.1=0/\y.2.2=[])(z:3<=op/\op<=13)(o : -12<=n/\n<=12)(ha:dU op=1\/dU op=2):Dk (br op n*(wa+wb)) (d+1) (oK m op n x y):=by
  have w1:=bg op n;have p:wa+wb<=br op n*(wa+wb):=J5 _ w1
  have hz:Dk (br op n*(wa+wb)) (d+1) ((0:Int),(0:Rat),([]:List Rat)):=⟨im oM,fun i=>by
    rw[eo];exact im (by have:1<=br op n*(wa+wb)*(d+1):=Nat.mul_pos oM (JO d);omega)⟩
  by_cases c1:x.1=0
  . by_cases c2:y.1=0
    . by_cases c3:co op n x.2.1 y.2.1=0
      . rw[mH c1 c2 c3]
        have hb:LQ (3*wb+1) y.2.1:=by
          rcases ha with h|h
          . obtain ⟨e1,e2,_⟩:=h1 h
            rw[e2];exact im oM
          . exact (a (b h)).1.mono oM
        refine ⟨Fl e c.1 (fun h=>(a h).1) b z (fL c3),fun i=>?_⟩;have B:=BJ (op:=op) (n:=n) e c.1 hb o;have u:=x5 (op:=op) (n:=n) e c.1 hb
        generalize hM:br op n*(wa+wb)=M at *
        have l:LQ (40*(wb*d)+1) (y.2.2.getD i 0):=by
          by_cases h:1<=wb
          . exact ((a h).2 i).mono oM
          . rcases ha with k|k
            . rw[(h1 k).2.2,eo];exact im oM
            . exact absurd (b k) h
        have C:(wa+wb)*d<=M*d:=ym _ p;have k2:(wa+wb)*d=wa*d+wb*d:=Nat.add_mul _ _ _;have D:M*(d+1)=M*d+M:=Nat.mul_succ _ _
        show LQ (40*(M*(d+1))) ((jI m op n x.2.1 y.2.1 x.2.2 y.2.2).getD i 0)
        unfold jI
        exact l9 (K:=40*(M*(d+1))) (fun j=>by
          have f:=c.2 j
          have l:LQ (40*(wb*d)+1) (y.2.2.getD j 0):=by
            by_cases h:1<=wb
            . exact ((a h).2 j).mono oM
            . rcases ha with k|k
              . rw[(h1 k).2.2,eo];exact im oM
              . exact absurd (b k) h
          exact ((B.mul f).add (u.mul l)).mono oM) oM i
      . rw[mS c1 c2 c3];exact hz
    . rw[oB c1 c2];exact hz
  . rw[mJ c1];exact hz
section
variable {ok:ByteArray->Prop}{ix:ByteArray->Nat}{at_:List Rat}
theorem Ak (m i j:Nat):LQ 1 ((d6 m i).getD j 0):=by
 unfold d6
 by_cases h:i<m
 ·rw[eh (by simpa using h)]
  split
  ·exact LQ.lit (z:=1) kD
  ·rw[fj];exact im kD
 ·rw[List.set_eq_of_length_le (by simp;omega),fj];exact im kD
theorem mZ {d:Nat}{op n:Int}{q:Rat}{s:ByteArray}{a:Tm}(h1:op≠1)(b:op≠2):bB ix at_ (d+1) (.mk op n q s [a])=oK at_.length op n (bB ix at_ d a) (0,0,[]):=by
 show (if op=1 then _ else if op=2 then _ else _)=_
 rw[if_neg h1,if_neg b];rfl
theorem mi {d:Nat}{op n:Int}{q:Rat}{s:ByteArray}{b a:Tm}(h1:op≠1)(c:op≠2):bB ix at_ (d+1) (.mk op n q s [b,a])=oK at_.length op n (bB ix at_ d b) (bB ix at_ d a):=by
 show (if op=1 then _ else if op=2 then _ else _)=_
 rw[if_neg h1,if_neg c];rfl
theorem pE (b:∀ i,LQ 1 (at_.getD i 0)):∀ {d:Nat} {t:Tm},WfT1 ok d t->1<=ba d t/\Dk (ba d t) d (bB ix at_ d t)
  | d + 1,.mk op n q s ks,⟨h1,h2,j,h4,h5,h6,f,c,h9⟩=>by
    have o:=az op;replace h1:dU op=(ks.length:Nat):=h1;replace j:LQ 1 q:=j;replace f : -12<=n:=f;replace c:n<=12:=c
    rcases dY h1 with rfl|⟨t,rfl⟩|⟨t,u,rfl⟩
    . have e:ba (d+1) (.mk op n q s [])=1:=gL rfl
      rw[e];refine ⟨ep _,?_⟩
      simp only[KR] at h1
      by_cases o1:op=1
      . have e2:bB ix at_ (d+1) (.mk op n q s [])=(0,q,yp at_.length 0):=if_pos o1
        rw[e2];exact ⟨j,fun i=>by show LQ _ ((yp _ _).getD i 0);rw[fj];exact im oM⟩
      . have o2:op=2:=by omega
        have e2:bB ix at_ (d+1) (.mk op n q s [])=(0,at_.getD (ix s) 0,d6 at_.length (ix s)):=(if_neg o1).trans (if_pos o2);rw[e2];exact ⟨b _,fun i=>(Ak _ _ i).mono oM⟩
    . obtain ⟨i1,a⟩:=pE b (h9 0 (JO _))
      replace i1:1<=ba d t:=i1;replace a:Dk (ba d t) d (bB ix at_ d t):=a
      simp only[ul,KR] at h1
      have e:ba (d+1) (.mk op n q s [t])=br op n*(ba d t+0):=by rw[iP (show [t].length≠0 from KS _)];show _*(0+ba d t)=_;rw[yl,ya]
      have w1:=bg op n;rw[e,mZ oM oM];exact ⟨eu i1 (J5 _ w1),Da i1 a (fun h=>absurd h kD) oM (fun _=>⟨rfl,rfl,rfl⟩) oM ⟨f,c⟩ oM⟩
    . obtain ⟨i1,a⟩:=pE b (h9 0 (JO _))
      obtain ⟨l,j2⟩:=pE b (h9 1 (by show 1<2;decide));replace i1:1<=ba d t:=i1;replace a:Dk (ba d t) d (bB ix at_ d t):=a;replace l:1<=ba d u:=l;replace j2:Dk (ba d u) d (bB ix at_ d u):=j2
      simp only[ul,KR] at h1
      have e:ba (d+1) (.mk op n q s [t,u])=br op n*(ba d t+ba d u):=by rw[iP (show [t,u].length≠0 from KS _)];show _*(0+ba d t+ba d u)=_;rw[yl]
      have w1:=bg op n;rw[e,mi oM oM];exact ⟨eu oM (J5 _ w1),Da i1 a (fun _=>j2) (fun _=>l) oM oM ⟨f,c⟩ oM⟩
theorem AV {m:Nat}{op n:Int}{x y:Int × Rat × List Rat}(h:(oK m op n x y).1=0):(oK m op n x y).2.2.length=m:=by
 by_cases c1:x.1=0
 ·by_cases c2:y.1=0
  ·by_cases c3:co op n x.2.1 y.2.1=0
   ·rw[mH c1 c2 c3];exact duG_len
   ·rw[mS c1 c2 c3] at h;exact absurd h c3
  ·rw[oB c1 c2] at h;exact absurd h c2
 ·rw[mJ c1] at h;exact absurd h c1
theorem jD:∀ {d:Nat} {t:Tm},WfT1 ok d t->(bB ix at_ d t).1=0->(bB ix at_ d t).2.2.length=at_.length
  | d + 1,t,_,h=>by
    by_cases o1:t.op=1
    . have e:bB ix at_ (d+1) t=(0,t.q,yp at_.length 0):=if_pos o1
      rw[e];exact KX
    . by_cases o2:t.op=2
      . have e:bB ix at_ (d+1) t=(0,at_.getD (ix t.s) 0,d6 at_.length (ix t.s)):=(if_neg o1).trans (if_pos o2)
        rw[e];unfold d6;simp
      . have e:bB ix at_ (d+1) t=oK at_.length t.op t.n _ _:=(if_neg o1).trans (if_neg o2)
        rw[e] at h ⊢;exact AV h
end
structure Whole (lo:Nat) (h:Hp) (b:Nat) (ty:TypeId) (vs:List Value):Prop where
  lo:lo<=b
  ty0:(ty == 0)=false
  at_:h[b]?=some (.cells vs.toArray ty (0,0))
structure Poked (h h':Hp) (b:Nat):Prop where
  oth:∀ c,c≠b->c<h.size->h'[c]?=h[c]?
section laws
variable {M:Ms}{P:Program}{n:Nat}{N R:Po}{X:Nat->Po}{ops:Array Oper}{k k0:Nat}{hr:Hp}{AL:List Al}{L:Array Bool}{Γ:ck}{w:World}{h:Hp}{w0:World}{h0:Hp}{B:List Bx}{Rs:List Rw}{F:List (Hp->Prop)}
theorem SS.appF (s:SS w0 h0 w h B Rs F){o:Oper}{ty:TypeId}{sz K c2:Nat}{z:Value}{α:Type}{f:α->List Value}{d:α}{A u:Z9}{l m:List α}(he:CW P (ev Γ) o=some (.slice A l.length l.length,.slice u m.length c2,ty,z,sz,K))(s0:SlO sz f d h A l)(so:SlO sz f d h u m)(W:0<l.length)(hm0:0<m.length)(h1:∀ x∈m,(f x).all (·.oneCell')=true)(hf:∀ x,(f x).length=sz)(S:z.cells.size=sz)(H:0<sz)(hm:l.length+m.length<=1099511627776)(hb:(l.length+m.length)*K<=140737488355328) :
  ∃ C c' w' L,(execOp (ev Γ) o).run P w=.ok (.value (.slice C (l++m).length c')) w'/\Up w h w' L/\SS w0 h0 w' L B (⟨ty,sz,C,c',(l++m).length,(l++m).flatMap f⟩::Rs) F:=by
 rw[so.ok hm0,s0.ok W] at he
 obtain ⟨x',y,p,Z,X,Q,U,i,hi,hi0,hi1,hi2⟩:∃ x y t,o.op=.call { callee:=.builtin .append,args:=#[x,y],argTypes:=#[t,t] }/\ev Γ x=.slice (some ⟨aB A,aO A,none⟩) l.length l.length/\ev Γ y=.slice (some ⟨aB u,aO u,none⟩) m.length c2/\P.underlying t=some (.slice ty)/\∃ i,P.info? ty=some i/\i.zero=some z/\i.size=sz/\i.bytes=K:=by
  obtain ⟨x',y,p,Z,X,Q,U,hi⟩:=qR he;obtain ⟨i,hi,e⟩:=Option.map_eq_some_iff.1 hi
  simp only[Prod.mk.injEq] at e
  exact ⟨x',y,p,Z,X,Q,U,i,hi,e.1,e.2.1,e.2.2⟩
 obtain ⟨v',w',J,I,j⟩:=run_append_arg_grows (P:=P) w p o.type ty i z sz K U hi hi0 hi1 hi2 S H ⟨aB A,aO A,none⟩ l.length l.length (l.flatMap f) (dG hf l) (jz s.g (s0.flat hf)) ⟨aB u,aO u,none⟩ m.length c2 (m.flatMap f) (dG hf m) (jz s.g (so.flat hf)) oM (by unfold maxLen;omega) hb;have V:l.flatMap f++m.flatMap f=(l++m).flatMap f:=vz;have hn:l.length+m.length=(l++m).length:=by simp
 rw[V,hn] at I
 have r:Gro h0 (B.map (·.b)) w h ty sz (.slice none 0 0) 0 []:=Gro.nil;obtain ⟨L,hh,s',Y⟩:=ph s.st s.g0 r (by simpa [Value.ownBlock] using j);have hsz:=s.g.size
 have a:∀ b,v'.ownBlock=some b->h.size<=b/\b<w'.heap.size:=fun b hb=>by
  refine ⟨?_,iX I hb⟩
  rcases I with ⟨_,⟨rfl,_⟩|⟨g,cap,cur,rfl,hbb,_⟩⟩
  ·simp[Value.ownBlock] at hb
  ·simp[Value.ownBlock] at hb;omega
 have hsl:∃ A c,v'=.slice A (l++m).length c:=by
  rcases I with ⟨_,⟨e,e2⟩|⟨g,cap,cur,e,_⟩⟩
  ·exact ⟨none,0,by rw[e,e2]⟩
  ·exact ⟨_,_,e⟩
 obtain ⟨C,c',rfl⟩:=hsl
 have O:w'.ownsRow h0.size ty sz (.slice C (l++m).length c') (l++m).length ((l++m).flatMap f):=by
  rcases I with ⟨q1,q2|⟨g,cap,cur,e,hbb,q3⟩⟩
  ·exact ⟨q1,.inl q2⟩
  ·exact ⟨q1,.inr ⟨g,cap,cur,e,by have:=s.st.up.gr.size;omega,q3⟩⟩
 refine ⟨C,c',w',L,?_,⟨⟨j.os,j.tape,j.output,j.size,fun c hc=>j.block c hc (by simp)⟩,hh,s'.g⟩,⟨s.g0,s',fun q D=>?_,List.pairwise_cons.2 ⟨fun q D b hb M=>?_,s.ap⟩,s.mo,s.f.gw s.mo hh.gw⟩⟩
 ·unfold execOp
  simp only[Z,resolve,invoke,builtin,Sem.run_bind,Sem.run_pure,Result.andThen_ok,List.map_toArray,List.map_cons,List.map_nil,X,Q,J]
 ·rcases g1.1 D with rfl|D
  ·refine ⟨O,fun b hb=>Y b (a b hb).1 (a b hb).2,fun b hb hm=>?_⟩
   obtain ⟨y,hy',e⟩:=gs.1 hm;have h2:=aJ (s.st.jk y hy');have h3:=(a b hb).1;have e':y.b=b:=e
   omega
  ·exact (s.ro q D).app j hh (fun b _ e=>by cases e)
 ·have h2:=(s.ro q D).lt M
  have h3:=(a b hb).1
  omega
theorem JC {α:Type}(t:Nat)(ty:TypeId)(sz:Nat)(f:α->List Value)(d:α)(A u:Z9)(l m:List α)(c2 p:Nat)(z:Value)(s:SS w0 h0 w h B Rs F)(C:SlO sz f d h A l)(so:SlO sz f d h u m)(i:0<l.length)(o:0<m.length)(h1:∀ x∈m,(f x).all (·.oneCell')=true)
  (H:∀ c c' w' j,SS w0 h0 w' j B (⟨ty,sz,c,c',(l++m).length,(l++m).flatMap f⟩::Rs) F->LG P n N R X ops (k+1) ((t,.slice c (l++m).length c')::Γ) w')
  (y:cL ops Γ k t n=true:=by kernel_rfl)(D:CW P (ev Γ) (ao ops k)=some (.slice A l.length l.length,.slice u m.length c2,ty,z,sz,p):=by kernel_rfl)(hf:∀ x,(f x).length=sz:=by intro _;rfl)(e:z.cells.size=sz:=by kernel_rfl)(a:0<sz:=by decide)(hm:l.length+m.length<=1099511627776:=by omega)(hb:(l.length+m.length)*p<=140737488355328:=by omega):LG P n N R X ops k Γ w:=by
 obtain ⟨c,c',w',j,b,_,I⟩:=s.appF (P:=P) D C so i o h1 hf e a hm hb;exact LG.val t _ w' (bR y).1 (bR y).2 b (H c c' w' j I)
theorem Hx (t:Nat)(ty:TypeId)(vs:List Value)(s:SS w0 h0 w h B Rs F)(H:∀ b w' a,Up w h w' a->h.size<=b->SS w0 h0 w' a (⟨b,ty,vs⟩::B) Rs F->LG P n N R X ops (k+1) ((t,.pointer (some ⟨b,0,none⟩))::Γ) w')(c:cL ops Γ k t n=true:=by kernel_rfl)
  (hr:(execOp (ev Γ) (ao ops k)).run P w=.ok (.value (.pointer (some ⟨w.heap.size,0,none⟩))) (w.alloc (.cells vs.toArray ty (0,0))):=by kernel_rfl):LG P n N R X ops k Γ w :=
 LG.var t ty vs s.st (bR c).1 (bR c).2 hr (fun b w' a hb u d=>H b w' a u hb (s.new u hb d))
theorem UpM.put2 {M2:List Nat}{wa w':World}{ha:Hp}{b:Nat}(u:UpM M2 wa ha w h)(p:Put b w w')(hb:ha.size<=b)(ga:G wa ha)(g:G w' h):UpM M2 wa ha w' h :=
 ⟨⟨p.os.trans u.mo.os,p.tape.trans u.mo.tape,p.output.trans u.mo.output,by rw[p.size];exact u.mo.size,fun c a hm=>(p.blk c (fun e=>by subst e;have:=ga.size;omega)).trans (u.mo.blk c a hm)⟩,u.gr,g⟩
end laws
theorem SS.takeL {w0:World}{h0:Hp}{w:World}{h:Hp}{B:List Bx}{F:List (Hp->Prop)}(s:SS w0 h0 w h B [] F){b:Nat}{ty:TypeId}{vs:List Value}(hb:h0.size<=b)(d:h[b]?=some (.cells vs.toArray ty (0,0)))(i:(ty == 0)=false:=by kernel_rfl) :
  ∃ l,SS w0 h0 w l (⟨b,ty,vs⟩::B) [] []:=by
 have f:=aJ d
 have o:h[b]?≠some bj:=fun e=>by
  rw[e] at d
  injection d with d
  unfold bj at d
  injection d with h1 h2 h3
  rw[<-h2] at i
  cases i
 have y:G w (h.setIfInBounds b bj):=⟨by simp;exact s.g.size,fun c=>by
  by_cases e:b=c
  ·subst e;right;rw[yz f]
  ·rw[g6 e];exact s.g.blk c⟩
 have u:Gr h0 (h.setIfInBounds b bj):=⟨by simp;exact s.st.up.gr.size,fun c j=>by rw[g6 oM];exact s.st.up.gr.blk c j⟩
 have p:Own w b ty vs:=by
  rcases s.g.blk b with e|e
  ·exact e.symm.trans d
  ·exact absurd e o
 refine ⟨h.setIfInBounds b bj,s.g0,⟨⟨s.st.up.ext,u,y⟩,?_,?_,?_,?_⟩,fun _ a=>(by cases a),.nil,fun _ a=>(by cases a),trivial⟩
 ·intro x a
  rcases g1.1 a with rfl|a
  ·exact p
  ·exact s.st.own x a
 ·intro x a
  rcases g1.1 a with rfl|a
  ·exact yz f
  ·by_cases e:b=x.b
   ·rw[<-e];exact yz f
   ·rw[g6 e];exact s.st.jk x a
 ·intro x a
  rcases g1.1 a with rfl|a
  ·exact hb
  ·exact s.st.lo x a
 ·show (b::B.map (·.b)).Nodup
  refine List.nodup_cons.2 ⟨fun hm=>?_,s.st.nd⟩;obtain ⟨x,a,e⟩:=gs.1 hm;exact o (e▸s.st.jk x a)
def tr (nm:Int->ByteArray)(l:List Stp)(i:Nat):Tm:=FI nm l (l.length+1) i
structure DpS (dp:Nat->Nat) (l:List Stp):Prop where
  one:∀ k,k<l.length->1<=dp k
  le:∀ k,k<l.length->dp k<=20
  a:∀ k,k<l.length->0<dU (l.getD k d9).op->dp (l.getD k d9).a.toNat<dp k
  b:∀ k,k<l.length->1<dU (l.getD k d9).op->dp (l.getD k d9).b.toNat<dp k
def jG:Nat->Tm->Nat
  | 0,_=>0
  | d+1,t=>1+ew (fun i=>jG d (t.ks.getD i ct)) t.ks.length
def ii:Nat->Tm->ByteArray->Prop
  | 0,_,_=>False
  | d+1,t,s=>(t.op=2/\s=t.s)\/∃ i,i<t.ks.length/\ii d (t.ks.getD i ct) s
def HasK (d:Nat)(ks:List Tm)(k:Nat)(s:ByteArray):Prop:=∃ i,i<k/\ii d (ks.getD i ct) s
theorem HasK.zero {d:Nat}{ks:List Tm}{s:ByteArray}:¬HasK d ks 0 s:=fun ⟨i,h,_⟩=>absurd h (KO i)
theorem HasK.succ {d:Nat}{ks:List Tm}{k:Nat}{s:ByteArray}:HasK d ks (k+1) s↔HasK d ks k s\/ii d (ks.getD k ct) s:=by
 constructor
 ·rintro ⟨i,hi,h⟩
  by_cases e:i=k
  ·subst e;exact .inr h
  ·exact .inl ⟨i,by omega,h⟩
 ·rintro (⟨i,hi,h⟩|h)
  ·exact ⟨i,by omega,h⟩
  ·exact ⟨k,by omega,h⟩
theorem WfT1.names {ok p:ByteArray->Prop}:∀ {d:Nat} {t:Tm},WfT1 ok d t->(∀ s,ii d t s->p s)->WfT1 (fun s=>ok s/\p s) d t
 | d+1,t,⟨h1,h2,h3,h4,h5,h6,h7,h8,h9⟩,h=>⟨h1,h2,h3,fun e=>⟨h4 e,h _ (.inl ⟨e,rfl⟩)⟩,h5,h6,h7,h8,fun i hi=>WfT1.names (h9 i hi) (fun s a=>h s (.inr ⟨i,hi,a⟩))⟩
theorem rk {ok:ByteArray->Prop}:∀ {d:Nat} {t:Tm} {s:ByteArray},WfT1 ok d t->ii d t s->ok s
 | d+1,t,s,w,.inl ⟨h1,h2⟩=>by rw[h2];exact w.2.2.2.1 h1
 | d+1,t,s,w,.inr ⟨i,hi,h⟩=>rk (w.2.2.2.2.2.2.2.2 i hi) h
theorem WfT1.imp {ok p:ByteArray->Prop}(f:∀ s,ok s->p s):∀ {d:Nat} {t:Tm},WfT1 ok d t->WfT1 p d t
 | d+1,t,⟨h1,h2,h3,h4,h5,h6,h7,h8,h9⟩=>⟨h1,h2,h3,fun e=>f _ (h4 e),h5,h6,h7,h8,fun i hi=>WfT1.imp f (h9 i hi)⟩
theorem WfT1.two {ok:ByteArray->Prop}{d:Nat}{t:Tm}(h:WfT1 ok (d+1) t):t.ks.length<=2:=by
 have:=h.1;have:=az t.op
 omega
theorem ry {f:Nat->Nat}{b:Nat}:∀ n,(∀ i,i<n->f i<=b)->ew f n<=n*b
  | 0,_=>by simp[ew]
  | n+1,h=>by
    have h1:=ry n (fun i hi=>h i oM);have a:=h n (Nat.lt_succ_self n)
    show ew f n+f n<=_
    rw[Nat.succ_mul];omega
theorem vm {ok:ByteArray->Prop}:∀ {d:Nat} {t:Tm},WfT1 ok d t->jG d t+1<=2^d
  | d+1,t,w=>by
    have a:=w.two;have c:=ry (f:=fun i=>jG d (t.ks.getD i ct)) (b:=2^d-1) t.ks.length (fun i hi=>by have:=vm (w.2.2.2.2.2.2.2.2 i hi);show jG d _<=_;omega);have e:0<2^d:=Nat.two_pow_pos d;have hm:t.ks.length*(2^d-1)<=2*(2^d-1):=ym _ a
    show 1+ew _ _+1<=2^(d+1)
    rw[Nat.pow_succ];omega
structure RecOk (nm:Int->ByteArray) (inp:Int) (d:Nat) (l:List Stp) (l2:List Stp) (n:Nat) (t:Tm):Prop where
  lq:(∀ i,LQ 1 (l.getD i d9).q)->∀ i,LQ 1 (l2.getD i d9).q
  dps:∀ dp,DpS dp l->∃ dp',DpS dp' l2/\(∀ k,k<l.length->dp' k=dp k)/\dp' (l2.length-1)<=d
  pre:∃ m,l2=l++m
  len:l2.length=l.length+n
  pos:0<n
  fm:∀ k,k<l2.length->nE inp k (l2.getD k d9)
  tr:∀ f,l2.length<=f->FI nm l2 f (l2.length-1)=t
structure AllOk (nm:Int->ByteArray) (inp:Int) (d:Nat) (ts:List Tm) (k:Nat) (l:List Stp) (os:List Int) (c:Nat):Prop where
  len:l.length=c
  fm:∀ k,k<l.length->nE inp k (l.getD k d9)
  lq:∀ i,LQ 1 (l.getD i d9).q
  dps:∃ dp,DpS dp l
  out:∀ j,j<k->0<=os.getD j 0/\os.getD j 0<(l.length:Nat)/\FI nm l (l.length+1) (os.getD j 0).toNat=ts.getD j ct
section
variable {M:Ms}{P:Program}{n:Nat}{N R:Po}{X:Nat->Po}{ops:Array Oper}{k k0:Nat}{hr:Hp}{AL:List Al}{L:Array Bool}{Γ:ck}{w:World}{h:Hp}{w0:World}{h0:Hp}{B:List Bx}{Rs:List Rw}{F:List (Hp->Prop)}
theorem tO (i t:Nat)(ps:List (Nat × Nat × Nat))(v:Value)(s:SS w0 h0 w h B Rs F)(H:AG M P n N R X ops k0 (L.setIfInBounds i true) ((t,v)::Γ) w)(a:cT n ops k0 L Γ i t=true:=by kernel_rfl)(b:ce B ps=true:=by kernel_rfl)(c:bU P (execOp (ev Γ) (ao ops i)) (cO B ps)=some (.value v,bQ B ps):=by kernel_rfl):AG M P n N R X ops k0 L Γ w :=
 T.val i t v w (qi a).1 (qi a).2 (bS _ _ _ _ c (cI s.st.own ps b)) H
end
open Go.RowKit Go.WideMaps
structure MapI (P:Program) (kt:TypeId) (Q:Value->Prop) (w1:World) (h1:Hp) (b:Nat):Prop where
  jk:h1[b]?=some bj
  ex:∃ es clk,w1.heap[b]?=some (.map es clk)/\∀ e∈es.toList,(∃ l,keyOf P kt e.key=some l)/\Q e.val
section laws
variable {P:Program}{n:Nat}{N R:Po}{X:Nat->Po}{ops:Array Oper}{k:Nat}{Γ:ck}{w:World}{h:Hp}{w0 w1:World}{h0 h1:Hp}{B:List Bx}{Rs:List Rw}{F:List (Hp->Prop)}
theorem SS.base (s:SS w1 h1 w h B Rs F){b:Nat}{o:Obj}(u:h1[b]?=some bj)(hb:b<w1.heap.size) :
  SS { w1 with heap:=w1.heap.setIfInBounds b o } h1 { w with heap:=w.heap.setIfInBounds b o } h B Rs F/\G { w1 with heap:=w1.heap.setIfInBounds b o } h1:=by
 have y:b<h1.size:=aJ u;have i:h[b]?=some bj:=(s.st.up.gr.blk b y).trans u;have p:b<w.heap.size:=by rw[s.g.size];exact aJ i
 have set:∀ (w:World) c,c≠b->({ w with heap:=w.heap.setIfInBounds b o }:World).heap[c]?=w.heap[c]?:=fun w c d=>by show (w.heap.setIfInBounds b o)[c]?=_;rw[g6 (Ne.symm d)]
 have a:∀ (w:World),b<w.heap.size->({ w with heap:=w.heap.setIfInBounds b o }:World).heap[b]?=some o:=fun w D=>by show (w.heap.setIfInBounds b o)[b]?=_;rw[yz D]
 have C:∀ (w:World) (h:Hp),G w h->h[b]?=some bj->G { w with heap:=w.heap.setIfInBounds b o } h:=fun w h g j=>⟨by show (w.heap.setIfInBounds b o).size=_;rw[KY];exact g.size,fun c=>by
  by_cases e:c=b
  ·subst e;exact .inr j
  ·rw[set w c e];exact g.blk c⟩
 have l:=C w1 h1 s.g0 u;refine ⟨⟨l,⟨⟨?_,s.st.up.gr,C w h s.g i⟩,fun x z=>?_,s.st.jk,s.st.lo,s.st.nd⟩,fun r hr=>?_,s.ap,s.mo,s.f⟩,l⟩
 ·have e:=s.st.up.ext
  refine ⟨e.os,e.tape,e.output,?_,fun c d=>?_⟩
  ·show (w1.heap.setIfInBounds b o).size<=(w.heap.setIfInBounds b o).size
   rw[KY,KY];exact e.size
  ·by_cases q:c=b
   ·subst q;rw[a w p,a w1 hb]
   ·rw[set w c q,set w1 c q];exact e.block c (by have:c<(w1.heap.setIfInBounds b o).size:=d;rw[KY] at this;exact this)
 ·have:x.b≠b:=fun e=>by have:=s.st.lo x z;omega
  exact (set w x.b this).trans (s.st.own x z)
 ·have q:=s.ro r hr
  refine ⟨ef q.own (fun c d=>set w c (fun e=>?_)),q.jk,q.ap⟩;subst e
  rcases q.own with ⟨_,e2|⟨g,cap,cur,hv,hb',_⟩⟩
  ·rw[e2.1] at d;simp[Value.ownBlock] at d
  ·rw[hv] at d
   simp[Value.ownBlock] at d
   omega
end laws
structure Dif (M:List Nat) (w w0:World):Prop where
  mo:Mo M w w0
  sz:w0.heap.size=w.heap.size
def fP (ss:List ByteArray):List MapEntry:=ss.zipIdx.map fun p=>⟨.string p.1,.bool true,p.2⟩
theorem xk (a:List ByteArray)(s:ByteArray):fP (a++[s])=fP a++[⟨.string s,.bool true,a.length⟩]:=by
 unfold fP;rw[List.zipIdx_append,List.map_append];simp
theorem re {a:List ByteArray}{j:Nat}{e:MapEntry}(h:(fP a)[j]?=some e):∃ s,a[j]?=some s/\e=⟨.string s,.bool true,j⟩:=by
 unfold fP at h
 rw[As,KZ] at h
 cases b:a[j]? with
 | none=>rw[b] at h;simp at h
 | some s=>rw[b] at h;simp at h;exact ⟨s,rfl,h.symm⟩
theorem nM {a:List ByteArray}{e:MapEntry}(h:e∈fP a):∃ j s,a[j]?=some s/\e=⟨.string s,.bool true,j⟩:=by
 obtain ⟨j,b⟩:=K0.1 h;obtain ⟨s,h1,c⟩:=re b;exact ⟨j,s,h1,c⟩
theorem BO {a:List ByteArray}{s:ByteArray}(h:s∈a):∃ e∈fP a,e.key=.string s:=by
 obtain ⟨j,b⟩:=K0.1 h;refine ⟨⟨.string s,.bool true,j⟩,?_,rfl⟩
 unfold fP
 refine gs.2 ⟨(s,j),?_,rfl⟩;rw[K0];exact ⟨j,by rw[KZ,b];simp⟩
theorem xB (a:List ByteArray)(s:ByteArray):(Instr.findNow .string (.string s) (fP a) 0=some none/\s ∉ a)\/∃ j,Instr.findNow .string (.string s) (fP a) 0=some (some (j,.bool true))/\a[j]?=some s:=by
 rcases MapKept.findNow_spec (d:=.string) (k:=.string s) (by simp[MapKept.IsKey]) (fP a) 0 (fun x c=>by obtain ⟨_,_,_,rfl⟩:=nM c;simp[MapKept.IsKey]) with ⟨h1,h2⟩|⟨j,e,h1,h2,h3⟩
 ·refine .inl ⟨h1,fun hm=>?_⟩
  obtain ⟨e,f,hk⟩:=BO hm;exact h2 e f hk
 ·obtain ⟨h,b,rfl⟩:=re h2
  injection h3 with h3
  subst h3;exact .inr ⟨j,by rw[h1,yl],b⟩
structure MapK (w:World) (h:Hp) (b:Nat) (ss:List ByteArray):Prop where
  jk:h[b]?=some bj
  ob:w.heap[b]?=some (.map (fP ss).toArray ss.length)
  nd:ss.Nodup
section laws
variable {P:Program}{n:Nat}{N R:Po}{X:Nat->Po}{ops:Array Oper}{k:Nat}{Γ:ck}{w:World}{h:Hp}{w1:World}{h1:Hp}{B:List Bx}{Rs:List Rw}{F:List (Hp->Prop)}
theorem SS.atK (s:SS w1 h1 w h B Rs F){b:Nat}{a:List ByteArray}(m:MapK w1 h1 b a):w.heap[b]?=some (.map (fP a).toArray a.length) :=
 (s.st.up.ext.block b (by rw[s.g0.size];exact aJ m.jk)).trans m.ob
theorem nG {b:Nat}{o:Obj}(a:G { w1 with heap:=w1.heap.setIfInBounds b o } h1):UpM [b] w1 h1 { w1 with heap:=w1.heap.setIfInBounds b o } h1 :=
 ⟨⟨rfl,rfl,rfl,by show _<=(w1.heap.setIfInBounds b o).size;rw[KY];exact ep _,fun c _ d=>by
  show (w1.heap.setIfInBounds b o)[c]?=_
  rw[g6 (fun e=>d (ov.2 e.symm))]⟩,Gr.refl _,a⟩
theorem Ij {mty kt et:TypeId}{b:Nat}{d:List ByteArray}(ky:ByteArray)(s:SS w1 h1 w h B Rs F)(m:MapK w1 h1 b d)
    (H:∀ w1' w' ss2,SS w1' h1 w' h B Rs F->MapK w1' h1 b ss2->(∀ x,x∈ss2↔x∈d\/x=ky)->ss2.length<=d.length+1->UpM [b] w1 h1 w1' h1->LG P n N R X ops (k+1) Γ w')
    (l:cS ops Γ k=true:=by kernel_rfl)(D:execOp (ev Γ) (ao ops k)=(do Instr.mapUpdate mty (.map (some b)) (.string ky) (.bool true);pure .skip):=by kernel_rfl)(z:P.underlying mty=some (.map kt et):=by kernel_rfl)(hk:P.underlying kt=some .string:=by kernel_rfl):LG P n N R X ops k Γ w:=by
  have C:=s.atK m;have f:b<w1.heap.size:=(g4.1 m.ob).1
  rcases xB d ky with ⟨hf,hn⟩|⟨j,hf,hj⟩
  . have hr:=rR w (val:=.bool true) z hk C hf
    obtain ⟨u,y⟩:=s.base (o:=.map ((fP d).toArray.push ⟨.string ky,.bool true,d.length⟩) (d.length+1)) m.jk f;refine LG.store _ (iH l).1 (iH l).2 ?_ (H _ _ (d++[ky]) u ⟨m.jk,?_,?_⟩ (fun x=>by simp) (by simp) (nG y))
    . rw[D];simp[hr,Result.andThen]
    . show (w1.heap.setIfInBounds b _)[b]?=_
      rw[yz f,xk];simp
    . exact List.nodup_append.2 ⟨m.nd,by simp,fun a ha c l e=>hn (by rw[ov] at l;rw[<-l,<-e];exact ha)⟩
  . have J:j<d.length:=(List.getElem?_eq_some_iff.1 hj).1
    have p:(fP d)[j]?=some ⟨.string ky,.bool true,j⟩:=by
      unfold fP;rw[As,KZ,hj];simp
    have hr:=qk w (val:=.bool true) z hk C hf (by simp[p])
    have I:((fP d).toArray.modify j fun e=>{ e with key:=.string ky,val:=.bool true })=(fP d).toArray:=by
      apply Array.ext_getElem?
      intro i;rw[Array.getElem?_modify]
      by_cases e:j=i
      . subst e
        rw[if_pos rfl]
        simp[p]
      . rw[if_neg e]
    rw[I] at hr
    obtain ⟨u,y⟩:=s.base (o:=.map (fP d).toArray d.length) m.jk f;refine LG.store _ (iH l).1 (iH l).2 ?_ (H _ _ d u ⟨m.jk,?_,m.nd⟩ (fun x=>⟨.inl,fun h=>h.elim id fun e=>by rw[e];exact K0.2 ⟨j,hj⟩⟩) (Nat.le_succ _) (nG y))
    . rw[D];simp[hr,Result.andThen]
    . show (w1.heap.setIfInBounds b _)[b]?=_
      rw[yz f]
theorem SS.baseK (s:SS w1 h1 w h B Rs F){b:Nat}{M a:List ByteArray}(m:MapK w1 h1 b M){w':World}{C:Hp}(u:UpM [b] w h w' C)(J:w'.heap[b]?=some (.map (fP a).toArray a.length))(L:a.Nodup):∃ i,SS i h1 w' C B Rs F/\MapK i h1 b a/\UpM [b] w1 h1 i h1:=by
 have p:b<w1.heap.size:=(g4.1 m.ob).1;have K:=aJ m.jk;obtain ⟨O,H⟩:=s.base (o:=.map (fP a).toArray a.length) m.jk p;have y:({ w1 with heap:=w1.heap.setIfInBounds b (.map (fP a).toArray a.length) }:World).heap.size=w1.heap.size:=by simp
 have l:∀ c,c<w.heap.size->c≠b->w'.heap[c]?=w.heap[c]?:=fun c d I=>u.mo.blk c d (fun hm=>I (ov.1 hm))
 have e:=s.st.up.ext;have z:∀ x∈B,x.b≠b:=fun x j e=>by have:=s.st.lo x j;omega
 refine ⟨_,⟨H,⟨⟨⟨u.mo.os.trans e.os,u.mo.tape.trans e.tape,u.mo.output.trans e.output,by rw[y];exact eu e.size u.mo.size,fun c d=>?_⟩,s.st.up.gr.trans u.gr,u.g⟩,fun x j=>?_,fun x j=>?_,s.st.lo,s.st.nd⟩,fun r hr=>⟨ef (s.ro r hr).own (fun c d=>?_),fun c d=>(u.gr.blk c ((s.ro r hr).lt d)).trans ((s.ro r hr).jk c d),(s.ro r hr).ap⟩,s.ap,s.mo,s.f.gw s.mo u.gr.gw⟩,⟨m.jk,by show (w1.heap.setIfInBounds b _)[b]?=_;rw[yz p],L⟩,nG H⟩
 ·rw[y] at d
  by_cases q:c=b
  ·subst q
   rw[J]
   show _=(w1.heap.setIfInBounds c _)[c]?
   rw[yz p]
  ·rw[l c (Nat.lt_of_lt_of_le d e.size) q]
   show _=(w1.heap.setIfInBounds b _)[c]?
   rw[g6 (Ne.symm q)];exact e.block c d
 ·have D:=s.st.own x j
  exact (l x.b D.lt (z x j)).trans D
 ·rw[u.gr.blk _ (aJ (s.st.jk x j))];exact s.st.jk x j
 ·refine l c (iX (s.ro r hr).own d) (fun e=>?_)
  subst e;have q:=(s.ro r hr).own
  rcases q with ⟨_,e2|⟨g,cap,cur,hv,hb',_⟩⟩
  ·rw[e2.1] at d;simp[Value.ownBlock] at d
  ·rw[hv] at d;simp[Value.ownBlock] at d;omega
end laws
theorem xI  (ok:ByteArray->Prop)(d:Nat)(ih:∀ (p:PTm) (t:Tm) (b:Nat) (z:List ByteArray) (w:World) (h:Hp),G w h->TmH d h p t->WfT1 ok d t->MapK w h b z->Calls Tryz.prog 83 #[ar p,.map (some b)] w (dX b w h (fun v w1 _=>v=.tuple #[]/\∃ u:List ByteArray,w1.heap[b]?=some (.map (fP u).toArray u.length)/\u.Nodup/\(∀ x,x∈u↔x∈z\/ii d t x)/\u.length<=z.length+jG d t)))(op n:Int)(q:Rat)(s:ByteArray)(A:Z9)(c:Nat)(ps:List PTm)(ks:List Tm)(hc:ps.length<=c)(hlp:ps.length<=2)(bb:dU op=(ks.length:Nat))(hq0:op≠1->q=0)(hq:LQ 1 q)(hok:op=2->ok s)(hs0:op≠2->s=⟨#[]⟩)(hn0:op≠8->n=0)(hn1 : -12<=n)(hn2:n<=12)(hW:∀ i,i<ks.length->WfT1 ok d (ks.getD i ct))(b:Nat)(z:List ByteArray)(w:World)(h:Hp)(g:G w h)(hK:SlO 9 aI aE h A ps)(Y:Tms d h ps ks)(e:MapK w h b z):Calls Tryz.prog 83 #[ar ⟨op,n,q,s,A,ps.length,c⟩,.map (some b)] w (dX b w h (fun v w1 _=>v=.tuple #[]/\∃ u:List ByteArray,w1.heap[b]?=some (.map (fP u).toArray u.length)/\u.Nodup/\(∀ x,x∈u↔x∈z\/ii (d+1) (.mk op n q s ks) x)/\u.length<=z.length+jG (d+1) (.mk op n q s ks))):=by
 have l:UpM [b] w h w h:=UpM.refl g;have a:SS w h w h [] [] []:=sS g;replace a:=((a.aS hK).add (K:=fun j=>Tms d j ps ks) Y);have hln:=(a.f.1).len;refine go Tryz.func83 [(0,ar ⟨op,n,q,s,A,ps.length,c⟩),(1,.map (some b))] rfl (aD (lA 2 32 (aI ⟨op,n,q,s,A,ps.length,c⟩) a (fun F w2 h3 a=>?_)));refine lN (CG.join (fun Γ Z=>∃ (y:World)(D:List ByteArray)(j:Hp),Γ=[(1,.map (some b)),(2,pB F)]/\SS y h Z j [⟨F,32,aI ⟨op,n,q,s,A,ps.length,c⟩⟩] [] [fun j=>Tms d j ps ks,fun j=>SlO 9 aI aE j A ps]/\MapK y h b D/\UpM [b] w h y h/\(∀ x,x∈D↔x∈z\/(op=2/\x=s))/\D.length<=z.length+1) ?_ ?_)
 .
  refine aa a [.v (pB F),.o (iV op) 0 0 1] ?_;cases B:((op:Int) == (2:Int))
  .
   have O:=ag B;refine lB 8 B (ah (CG.skip ?_));intro a_ Q;exact ⟨_,⟨w,z,h3,rfl,a.to _ _,e,l,(fun x=>⟨fun j=>.inl j,fun j=>j.elim id (fun J=>absurd J.1 oM)⟩),oM⟩,Q.to _ kR⟩
  have O:=eq_of_beq B;refine lB 8 B (au (kQ (lL a [.c,.v (qP F 7),.o (.string s) 0 7 1] (Ij (mty:=154) (kt:=9) (et:=4) (s) a e (fun w9 _ L a e C I V=>?_)))));replace l:=l.trans V
  clear V
  refine lD ?_;intro a_ Q;exact ⟨_,⟨w9,L,h3,rfl,a.to _ _,e,l,(fun x=>(C x).trans ⟨fun j=>j.imp id fun J=>⟨by omega,J⟩,fun j=>j.imp id fun J=>J.2⟩),oM⟩,Q.to _ kR⟩
 rintro _ _ ⟨y,D,zc,rfl,a,e,l,hs1,hl1⟩;refine aa a [.v (qP F 8),.o (qS A ps.length c) 0 8 1,.v (nV ps.length),.c] (bh ?_);refine cj _ (CG.loop (fun μ_ Γ Z=>∃ (y:World)(k:Nat)(sk:List ByteArray)(j:Hp),μ_=ps.length-k/\Γ=[(1,.map (some b)),(13,qS A ps.length c),(14,nV ps.length),(15,nV k)]/\SS y h Z j [⟨F,32,aI ⟨op,n,q,s,A,ps.length,c⟩⟩] [] [fun j=>Tms d j ps ks,fun j=>SlO 9 aI aE j A ps]/\MapK y h b sk/\UpM [b] w h y h/\k<=ps.length/\(∀ x,x∈sk↔x∈D\/HasK d ks k x)/\sk.length<=D.length+(ew (fun i=>jG d (ks.getD i ct)) k)) _ ⟨y,0,D,zc,rfl,rfl,a.to _ _,e,l,JL _,(fun x=>⟨.inl,fun j=>j.elim id (fun j=>absurd j HasK.zero)⟩),nR _⟩ ?_);rintro _ _ _ ⟨y,k,sk,_,bk,rfl,a,e,l,hk,W,bd⟩;have bf:(ew (fun i=>jG d (ks.getD i ct)) (k+1))=(ew (fun i=>jG d (ks.getD i ct)) k)+jG d (ks.getD k ct):=rfl;refine aD ?_;cases X:(decide ((k:Int)<(ps.length:Int)))
 .
  have zb:=oF X;refine lB 16 X (af (cW (CG.exit ?_)));have S:k=ks.length:=by omega
  have hcn:jG (d+1) (.mk op n q s ks)=1+(ew (fun i=>jG d (ks.getD i ct)) ks.length):=rfl;exact a.retM (l.trans (a.st.up.m _)) [] (.tuple #[]) ⟨rfl,sk,a.atK e,e.nd,fun x=>by rw[W x,hs1 x,S,or_assoc];exact Iff.rfl,by rw[hcn,<-S];omega⟩
 have zb:=oT X;refine lB 16 X (af (cl (cK (cQ (kZ (aD (lX 17 A ps.length c 9 (k:Nat) k ((a.f.2.1).ok oM) ?_)))))));refine lH 18 (ar (ps.getD k aE)) a ((a.f.2.1).el k oM) (lA 5 32 a2 a (fun b22 _ _ a=>lP 0 0 (aI (ps.getD k aE)) a (fun _ a=>lN (kQ (lL a [.o (ar (ps.getD k aE)) 0 0 9,.c] (fD 21 (ih (ps.getD k aE) (ks.getD k ct) b sk _ _ a.g ((a.f.1).at_ k oM) (hW k oM) ⟨(a.st.up.gr.blk _ (aJ e.jk)).trans e.jk,a.atK e,e.nd⟩) ?_))))));rintro _ _ zd u28 ⟨rfl,M,H,U,C,I⟩;obtain ⟨ze,a,e,V⟩:=a.baseK e u28 H U;replace l:=l.trans V
 clear V H U
 refine lN (kQ (bI 22 ((k:Nat)+1) (k+1) ?_));refine lL a ac (lD ?_);intro a_ Q;replace a:=a.drop 1 0;refine ⟨_,_,?_,⟨ze,k+1,M,zd,rfl,rfl,a.to _ _,e,l,oM,(fun x=>(C x).trans (by rw[W x,or_assoc,<-HasK.succ])),oM⟩,Q.to _ kR⟩
 omega
theorem rz (ok:ByteArray->Prop):∀ (d:Nat) (p:PTm) (t:Tm) (b:Nat) (e:List ByteArray) (w:World) (h:Hp),G w h->TmH d h p t->WfT1 ok d t->MapK w h b e->Calls Tryz.prog 83 #[ar p,.map (some b)] w (dX b w h (fun v w1 _=>v=.tuple #[]/\∃ a:List ByteArray,w1.heap[b]?=some (.map (fP a).toArray a.length)/\a.Nodup/\(∀ x,x∈a↔x∈e\/ii d t x)/\a.length<=e.length+jG d t))
  | 0,_,_,_,_,_,_,_,x,_,_=>x.elim
  | d+1,p,t,b,e,w,h,g,x,wf,hmk=>by
    obtain ⟨op,n,q,s,A,c,ps,ks,rfl,rfl,u,B,f⟩:=x.open;have i:=wf.two;obtain ⟨w1,w2,w3,w4,o,j,z,l,y⟩:=wf;exact xI ok d (fun p t b e w h=>rz ok d p t b e w h) op n q s A c ps ks u (by have:=f.len;exact this▸i) w1 w2 w3 w4 o j z l y b e w h g B f hmk
section laws
variable {M:Ms}{P:Program}{ops:Array Oper}{Q:Exit->Act->World->Prop}{k0:Nat}
structure Waits (ops:Array Oper) (k0 i:Nat) (late:List Nat):Prop where
  ev:∀ u∈late,∃ ou,ops[u]?=some ou/\∃ e∈ou.after,Region.binds .any e=true/\(e.on=i\/e.on∈late)
  tl:∀ j oj,ops[j]?=some oj->k0<=j->j∈late
end laws
theorem kU (a:Rat):dV a a=0:=by unfold dV ee;rw[if_neg oM,if_neg oM]
abbrev oA (q:Rat)(A:Z9)(m c:Nat):Value:=.agg #[.bool (aw q.num),.int .u64 (lo (ab q.num)),.string (hi (ab q.num)),.int .u64 (lo (qd q)),.string (hi (qd q)),.slice A m c]
def dC (f:Nat->Rat)(m k:Nat):List Rat:=(hO m).map fun i=>if i<k then f i else 0
theorem iu (f:Nat->Rat)(m:Nat):yp m (0:Rat)=dC f m 0:=by
 unfold dC
 refine jn (by simp) fun i=>?_
 by_cases hi:i<m
 ·simp[hi]
 ·rw[dq (by simp;omega),dq (by simp;omega)]
theorem e7 {f:Nat->Rat}{m k:Nat}(hk:k<m):(dC f m k).set k (f k)=dC f m (k+1):=by
 unfold dC
 refine jn (by simp) fun i=>?_
 by_cases hi:i<m
 ·rw[eh (by simpa using hk)]
  by_cases e:i=k
  ·subst e;simp[hi]
  ·rw[if_neg e];simp[hi]
   by_cases h2:i<k
   ·rw[if_pos h2,if_pos oM]
   ·rw[if_neg h2,if_neg oM]
 ·rw[dq (by simp;omega),dq (by simp;omega)]
theorem fV (f:Nat->Rat)(m:Nat):((hO m).map fun i=>f i).length=m:=by simp
theorem wm (m i:Nat):(d6 m i).length=m:=by unfold d6;simp
theorem fd (f:Nat->Rat)(m:Nat):dC f m m=(hO m).map fun i=>f i:=by
 unfold dC
 refine KT fun i hi=>?_
 rw[if_pos (hP.1 hi)]
theorem jt (p:Z9)(m u:Nat)(hm:m<=1000)(q:Rat)(hk:Hp)(w:World)(h:Hp)(g:G w h)(hz:hk.size<=h.size):CR 270 #[.agg #[.slice p m u],qv q] w h (fun v h1=>∃ z,v=oA q (sB z) m m/\Nw hk.size h1 z 29 ((yp m (0:Rat)).flatMap qc)):=by
 have a:=sS g;refine go Tryz.func270 [(0,.agg #[qS p m u]),(1,qv q)] rfl (aD (lA 2 75 ([qS p m u]) a (fun x w2 H a=>lA 3 29 (qc q) a (fun B F J a=>lA 4 51 ([qF,uV 0,eS,uV 0,eS,sZ]) a (fun C D I a=>af (cR 6 [] mixed a aq ?_))))));refine eO 0 5 [(1,0,5)] (qv q) a (eV 1 6 (pB x) (eO 2 7 [(2,0,1)] (qS p m u) a (eV 3 8 (nV m) (eK 4 9 29 m 5 56 ca qc 0 a (fun e _ _ a=>?_)))));have y:(yp m 0).length=m:=by simp
 refine eV 5 10 (qY q (sB e) m m) (bY a (fun _ _ a=>tP 6 1 0 (qZ q (sB e) m m) a (fun _ a=>tN (kX ?_))));obtain ⟨_,a,i,c,j⟩:=a.pub 0;replace a:=(a.to [⟨C,51,qZ q (sB e) m m⟩,⟨B,29,qc q⟩,⟨x,75,[qS p m u]⟩] []).aS (SlO.of_flat (sz:=5) (f:=qc) (d:=0) (b:=e) (o:=0) (l:=yp m 0) (fun _=>rfl) i);exact a.ret [(0,0,6)] (qY q (sB e) m m) (⟨_,rfl,eu hz c,by decide,j⟩)
theorem jv (a:Z9)(m c:Nat)(hm:m<=1000)(q:Rat)(w:World)(h:Hp)(g:G w h):Calls Tryz.prog 270 #[.agg #[.slice a m c],qv q] w (Ret w h (fun v h1=>∃ i,v=oA (q) (sB i) (yp m (0:Rat)).length m/\Sq (sB i) (yp m (0:Rat)) h1)) :=
 (jt a m c hm q h w h g (nR _)).mono fun e w' ⟨v,j,e1,u,b,e2,n⟩=>⟨v,j,e1,u,b,by rw[e2,KX],SlO.of_flat (sz:=5) (f:=qc) (d:=0) (b:=b) (o:=0) (l:=yp m (0:Rat)) (fun _=>rfl) n.seg0⟩
theorem Fi (B:Z9)(m x:Nat)(hm:m<=1000)(K D:Nat)(hK1:1<=K)(hKD:K<=1000000)(hD:D<=20000000)(a:Rat)(ga:List Rat)(p:Z9)(z:Nat)(hla:ga.length=m)(ha:LQ K a)(M:∀ i,LQ D (ga.getD i 0))(b:Rat)(gb:List Rat)(u:Z9)(y:Nat)(hlb:gb.length=m)(hb:LQ K b)(U:∀ i,LQ D (gb.getD i 0))(w:World)(h:Hp)(g:G w h)(S:Sq p ga h)(V:Sq u gb h)(tb:Tab h):CR 265 #[.agg #[.slice B m x],qY a p ga.length z,qY b u gb.length y] w h (fun v h1=>∃ bk,v=oA (a+b) (sB bk) ((hO m).map fun i=>ga.getD i 0+gb.getD i 0).length m/\Sq (sB bk) ((hO m).map fun i=>ga.getD i 0+gb.getD i 0) h1):=by
 have e:=((((sS g).aS S).aS V).add (K:=fun C=>Tab C) tb);refine go Tryz.func265 [(0,.agg #[qS B m x]),(1,qY a p ga.length z),(2,qY b u gb.length y)] rfl (aD (lA 3 75 ([qS B m x]) e (fun Q w2 h3 e=>lA 4 51 (qZ a p ga.length z) e (fun H w5 h6 e=>lA 5 51 (qZ b u gb.length y) e (fun I w8 h9 e=>lA 6 51 ([qF,uV 0,eS,uV 0,eS,sZ]) e (fun J _ _ e=>af ?_))))));have hsr:=e;refine cR 8 [⟨7,7,.cells (J8 [qF,uV 0,eS,uV 0,eS,sZ]) 51 (0,0)⟩] mixed e (bv (dM kR (fun _ _=>by kernel_rfl)) aq) (eO 0 9 [(3,0,1)] (.agg #[qS B m x]) e (eV 1 10 (pB H) (eO 2 11 [(2,0,5)] (qv a) e (eV 3 12 (pB I) (eO 4 13 [(1,0,5)] (qv b) e ?_)))));have bl:=LQ.add ha hb;refine ai 5 14 e (fun _ _ e=>nu a b (LQ.mono ha oM) (LQ.mono hb oM) _ _ e.g e.f.1) (fun _ _ e=>eC 6 15 e (fun _ _ e=>jt B m x hm (a+b) h _ _ e.g e.st.sz) ?_);rintro _ _ _ _ _ e ⟨j,rfl,hNn⟩;replace e:=(e.add (K:=fun C=>Nw h.size C j 29 ((yp m (0:Rat)).flatMap qc)) hNn);refine eP [] hsr e 51 [qF,uV 0,eS,uV 0,eS,sZ] (fun _ _ F e=>tP 8 0 0 (qZ (a+b) (sB j) m m) e (fun _ e=>tN (cQ (aD ?_))));obtain ⟨zf,e⟩:=e.takeL (e.f.1).1 (e.f.1).2.2;replace e:=e.aS (S.gw e.st.up.gr.gw);replace e:=e.aS (V.gw e.st.up.gr.gw);replace e:=e.add (K:=fun C=>Tab C) (tb.gw e.st.up.gr.gw);replace e:=e.to [⟨j,29,((yp m 0)).flatMap qc⟩,⟨F,51,qZ (a+b) (sB j) m m⟩,⟨J,51,[qF,uV 0,eS,uV 0,eS,sZ]⟩,⟨I,51,qZ b u gb.length y⟩,⟨H,51,qZ a p ga.length z⟩,⟨Q,75,[qS B m x]⟩] [];refine lL e [.v (qP F 5),.o (qS (sB j) m m) 1 5 1,.v (nV m),.c] (bh ?_);refine cj _ (CG.loop (fun X Γ w_=>∃ (k:Nat)(L:List Rat)(C:Hp),X=m-k/\Γ=[(4,pB H),(5,pB I),(6,pB J),(7,pB F),(18,nV m),(19,nV k)]/\SS w h w_ C [⟨j,29,(L).flatMap qc⟩,⟨F,51,qZ (a+b) (sB j) m m⟩,⟨J,51,[qF,uV 0,eS,uV 0,eS,sZ]⟩,⟨I,51,qZ b u gb.length y⟩,⟨H,51,qZ a p ga.length z⟩,⟨Q,75,[qS B m x]⟩] [] [fun C=>Tab C,Sq u gb,Sq p ga]/\k<=m/\L.length=m/\L=dC (fun i=>ga.getD i 0+gb.getD i 0) m k) _ ⟨0,yp m 0,zf,rfl,rfl,e.to _ _,JL _,KX,(iu _ _)⟩ ?_);rintro _ _ _ ⟨k,L,_,bf,rfl,e,hk,Y,Z⟩;refine aD ?_;cases W:(decide ((k:Int)<(m:Int)))
 .
  have zd:=oF W;refine lB 20 W (af (cW (CG.exit ?_)))
  show CG _ _ _ _ _ _ _ _
  refine aa e [.o (qY (a+b) (sB j) m m) 1 0 6] (lP 2 0 (qZ (a+b) (sB j) m m) e (fun _ e=>lN (kX ?_)));have hkm:k=m:=by omega
  rw[hkm,fd] at Z
  subst Z;replace e:=e.to [⟨j,29,(((hO m).map fun i=>ga.getD i 0+gb.getD i 0)).flatMap qc⟩,⟨F,51,qZ (a+b) (sB j) m m⟩,⟨J,51,qZ (a+b) (sB j) m m⟩,⟨I,51,qZ b u gb.length y⟩,⟨H,51,qZ a p ga.length z⟩,⟨Q,75,[qS B m x]⟩] [];obtain ⟨_,e,O,bb,bm⟩:=e.pub 0;replace e:=(e.to [⟨F,51,qZ (a+b) (sB j) m m⟩,⟨J,51,qZ (a+b) (sB j) m m⟩,⟨I,51,qZ b u gb.length y⟩,⟨H,51,qZ a p ga.length z⟩,⟨Q,75,[qS B m x]⟩] []).aS (SlO.of_flat (sz:=5) (f:=qc) (d:=0) (b:=j) (o:=0) (l:=((hO m).map fun i=>ga.getD i 0+gb.getD i 0)) (fun _=>rfl) O);exact e.ret [(1,0,6)] (qY (a+b) (sB j) m m) (⟨_,by rw[fV],e.f.1⟩)
 have zd:=oT W;refine lB 20 W (af (cl (cK (cQ (kZ (aa e aK (lN (cR 14 [] mixed e aq ?_))))))));refine eV 0 22 (qP F 5) (eO 1 23 [(1,5,1)] (qS (sB j) m m) e (eV 2 24 (nV k) (eV 3 25 (qP H 5) (eO 4 26 [(4,5,1)] (qS p ga.length z) e (eV 5 27 (nV k) (eX 6 28 p ga.length z 5 (k:Nat) k ((e.f.r.1).ok oM) (eH 7 29 (qv (ga.getD k 0)) e ((e.f.r.1).el k oM) (eV 8 30 (qP I 5) (eO 9 31 [(3,5,1)] (qS u gb.length y) e (eV 10 32 (nV k) (eX 11 33 u gb.length y 5 (k:Nat) k ((e.f.2.1).ok oM) (eH 12 34 (qv (gb.getD k 0)) e ((e.f.2.1).el k oM) ?_))))))))))));have bd:=LQ.add (M k) (U k);refine ai 13 35 e (fun _ _ e=>nu (ga.getD k 0) (gb.getD k 0) (LQ.mono (M k) oM) (LQ.mono (U k) oM) _ _ e.g e.f.1) (fun _ _ e=>bY e (fun _ zg e=>tX 14 36 (sB j) m m 5 (k:Nat) k rfl (tW 15 0 L qc 5 k ((ga.getD k 0)+(gb.getD k 0)) e oM (fun _ e=>?_))));have ze:((L).set k ((ga.getD k 0)+(gb.getD k 0))).length=m:=by rw[Gx];exact Y
 replace e:=e.to [⟨j,29,((L).set k ((ga.getD k 0)+(gb.getD k 0))).flatMap qc⟩,⟨F,51,qZ (a+b) (sB j) m m⟩,⟨J,51,[qF,uV 0,eS,uV 0,eS,sZ]⟩,⟨I,51,qZ b u gb.length y⟩,⟨H,51,qZ a p ga.length z⟩,⟨Q,75,[qS B m x]⟩] [];refine tN (kQ (bI 37 ((k:Nat)+1) (k+1) ?_));refine lL e ac (lD ?_);intro a_ ka;refine ⟨_,_,?_,⟨k+1,(L).set k ((ga.getD k 0)+(gb.getD k 0)),zg,rfl,rfl,e.to _ _,oM,ze,(by rw[Z];exact e7 oM)⟩,ka.to _ kR⟩
 omega
theorem Cf (B:Z9)(m x:Nat)(hm:m<=1000)(K D:Nat)(hK1:1<=K)(hKD:K<=1000000)(hD:D<=20000000)(a:Rat)(ga:List Rat)(p:Z9)(z:Nat)(hla:ga.length=m)(ha:LQ K a)(M:∀ i,LQ D (ga.getD i 0))(b:Rat)(gb:List Rat)(u:Z9)(y:Nat)(hlb:gb.length=m)(hb:LQ K b)(U:∀ i,LQ D (gb.getD i 0))(w:World)(h:Hp)(g:G w h)(S:Sq p ga h)(V:Sq u gb h)(tb:Tab h):CR 269 #[.agg #[.slice B m x],qY a p ga.length z,qY b u gb.length y] w h (fun v h1=>∃ bk,v=oA (a*b) (sB bk) ((hO m).map fun i=>ga.getD i 0*b+a*gb.getD i 0).length m/\Sq (sB bk) ((hO m).map fun i=>ga.getD i 0*b+a*gb.getD i 0) h1):=by
 have e:=((((sS g).aS S).aS V).add (K:=fun C=>Tab C) tb);refine go Tryz.func269 [(0,.agg #[qS B m x]),(1,qY a p ga.length z),(2,qY b u gb.length y)] rfl (aD (lA 3 75 ([qS B m x]) e (fun Q w2 h3 e=>lA 4 51 (qZ a p ga.length z) e (fun F w5 h6 e=>lA 5 51 (qZ b u gb.length y) e (fun H w8 h9 e=>lA 6 51 ([qF,uV 0,eS,uV 0,eS,sZ]) e (fun J _ _ e=>af ?_))))));have hsr:=e;refine cR 8 [⟨7,7,.cells (J8 [qF,uV 0,eS,uV 0,eS,sZ]) 51 (0,0)⟩] mixed e (bv (dM kR (fun _ _=>by kernel_rfl)) aq) (eO 0 9 [(3,0,1)] (.agg #[qS B m x]) e (eV 1 10 (pB F) (eO 2 11 [(2,0,5)] (qv a) e (eV 3 12 (pB H) (eO 4 13 [(1,0,5)] (qv b) e ?_)))));have bl:=LQ.mul ha hb;refine ai 5 14 e (fun _ _ e=>iS a b (LQ.mono ha oM) (LQ.mono hb oM) _ _ e.g e.f.1) (fun _ _ e=>eC 6 15 e (fun _ _ e=>jt B m x hm (a*b) h _ _ e.g e.st.sz) ?_);rintro _ _ _ _ _ e ⟨j,rfl,hNn⟩;replace e:=(e.add (K:=fun C=>Nw h.size C j 29 ((yp m (0:Rat)).flatMap qc)) hNn);refine eP [] hsr e 51 [qF,uV 0,eS,uV 0,eS,sZ] (fun _ _ I e=>tP 8 0 0 (qZ (a*b) (sB j) m m) e (fun _ e=>tN (cQ (aD ?_))));obtain ⟨zi,e⟩:=e.takeL (e.f.1).1 (e.f.1).2.2;replace e:=e.aS (S.gw e.st.up.gr.gw);replace e:=e.aS (V.gw e.st.up.gr.gw);replace e:=e.add (K:=fun C=>Tab C) (tb.gw e.st.up.gr.gw);replace e:=e.to [⟨j,29,((yp m 0)).flatMap qc⟩,⟨I,51,qZ (a*b) (sB j) m m⟩,⟨J,51,[qF,uV 0,eS,uV 0,eS,sZ]⟩,⟨H,51,qZ b u gb.length y⟩,⟨F,51,qZ a p ga.length z⟩,⟨Q,75,[qS B m x]⟩] [];refine lL e [.v (qP I 5),.o (qS (sB j) m m) 1 5 1,.v (nV m),.c] (bh ?_);refine cj _ (CG.loop (fun X Γ w_=>∃ (k:Nat)(L:List Rat)(C:Hp),X=m-k/\Γ=[(4,pB F),(5,pB H),(6,pB J),(7,pB I),(18,nV m),(19,nV k)]/\SS w h w_ C [⟨j,29,(L).flatMap qc⟩,⟨I,51,qZ (a*b) (sB j) m m⟩,⟨J,51,[qF,uV 0,eS,uV 0,eS,sZ]⟩,⟨H,51,qZ b u gb.length y⟩,⟨F,51,qZ a p ga.length z⟩,⟨Q,75,[qS B m x]⟩] [] [fun C=>Tab C,Sq u gb,Sq p ga]/\k<=m/\L.length=m/\L=dC (fun i=>ga.getD i 0*b+a*gb.getD i 0) m k) _ ⟨0,yp m 0,zi,rfl,rfl,e.to _ _,JL _,KX,(iu _ _)⟩ ?_);rintro _ _ _ ⟨k,L,_,bd,rfl,e,hk,Y,Z⟩;refine aD ?_;cases W:(decide ((k:Int)<(m:Int)))
 .
  have zf:=oF W;refine lB 20 W (af (cW (CG.exit ?_)))
  show CG _ _ _ _ _ _ _ _
  refine aa e [.o (qY (a*b) (sB j) m m) 1 0 6] (lP 2 0 (qZ (a*b) (sB j) m m) e (fun _ e=>lN (kX ?_)));have hkm:k=m:=by omega
  rw[hkm,fd] at Z
  subst Z;replace e:=e.to [⟨j,29,(((hO m).map fun i=>ga.getD i 0*b+a*gb.getD i 0)).flatMap qc⟩,⟨I,51,qZ (a*b) (sB j) m m⟩,⟨J,51,qZ (a*b) (sB j) m m⟩,⟨H,51,qZ b u gb.length y⟩,⟨F,51,qZ a p ga.length z⟩,⟨Q,75,[qS B m x]⟩] [];obtain ⟨_,e,O,bb,bm⟩:=e.pub 0;replace e:=(e.to [⟨I,51,qZ (a*b) (sB j) m m⟩,⟨J,51,qZ (a*b) (sB j) m m⟩,⟨H,51,qZ b u gb.length y⟩,⟨F,51,qZ a p ga.length z⟩,⟨Q,75,[qS B m x]⟩] []).aS (SlO.of_flat (sz:=5) (f:=qc) (d:=0) (b:=j) (o:=0) (l:=((hO m).map fun i=>ga.getD i 0*b+a*gb.getD i 0)) (fun _=>rfl) O);exact e.ret [(1,0,6)] (qY (a*b) (sB j) m m) (⟨_,by rw[fV],e.f.1⟩)
 have zf:=oT W;refine lB 20 W (af (cl (cK (cQ (kZ (aa e aK (lN (cR 20 [] mixed e aq ?_))))))));refine eV 0 22 (qP I 5) (eO 1 23 [(1,5,1)] (qS (sB j) m m) e (eV 2 24 (nV k) (eV 3 25 (qP F 5) (eO 4 26 [(4,5,1)] (qS p ga.length z) e (eV 5 27 (nV k) (eX 6 28 p ga.length z 5 (k:Nat) k ((e.f.r.1).ok oM) (eH 7 29 (qv (ga.getD k 0)) e ((e.f.r.1).el k oM) (eV 8 30 (pB H) (eO 9 31 [(3,0,5)] (qv b) e (eV 11 33 (pB F) (eO 12 34 [(4,0,5)] (qv a) e (eV 13 35 (qP H 5) (eO 14 36 [(3,5,1)] (qS u gb.length y) e (eV 15 37 (nV k) (eX 16 38 u gb.length y 5 (k:Nat) k ((e.f.2.1).ok oM) (eH 17 39 (qv (gb.getD k 0)) e ((e.f.2.1).el k oM) ?_))))))))))))))));have zd:=LQ.mul (M k) hb;refine ai 10 32 e (fun _ _ e=>iS (ga.getD k 0) b (LQ.mono (M k) oM) (LQ.mono hb oM) _ _ e.g e.f.1) (fun _ _ e=>?_);have ze:=LQ.mul ha (U k);refine ai 18 40 e (fun _ _ e=>iS a (gb.getD k 0) (LQ.mono ha oM) (LQ.mono (U k) oM) _ _ e.g e.f.1) (fun _ _ e=>?_);have bf:=LQ.add zd ze;refine ai 19 41 e (fun _ _ e=>nu ((ga.getD k 0)*b) (a*(gb.getD k 0)) (LQ.mono zd oM) (LQ.mono ze oM) _ _ e.g e.f.1) (fun _ _ e=>bY e (fun _ zj e=>tX 20 42 (sB j) m m 5 (k:Nat) k rfl (tW 21 0 L qc 5 k (((ga.getD k 0)*b)+(a*(gb.getD k 0))) e oM (fun _ e=>?_))));have zg:((L).set k (((ga.getD k 0)*b)+(a*(gb.getD k 0)))).length=m:=by rw[Gx];exact Y
 replace e:=e.to [⟨j,29,((L).set k (((ga.getD k 0)*b)+(a*(gb.getD k 0)))).flatMap qc⟩,⟨I,51,qZ (a*b) (sB j) m m⟩,⟨J,51,[qF,uV 0,eS,uV 0,eS,sZ]⟩,⟨H,51,qZ b u gb.length y⟩,⟨F,51,qZ a p ga.length z⟩,⟨Q,75,[qS B m x]⟩] [];refine tN (kQ (bI 43 ((k:Nat)+1) (k+1) ?_));refine lL e ac (lD ?_);intro a_ ka;refine ⟨_,_,?_,⟨k+1,(L).set k (((ga.getD k 0)*b)+(a*(gb.getD k 0))),zj,rfl,rfl,e.to _ _,oM,zg,(by rw[Z];exact e7 oM)⟩,ka.to _ kR⟩
 omega
theorem wl (z:Z9)(m x:Nat)(hm:m<=1000)(K D:Nat)(hK1:1<=K)(hKD:K<=1000000)(hD:D<=20000000)(a:Rat)(ga:List Rat)(u:Z9)(y:Nat)(hla:ga.length=m)(ha:LQ K a)(M:∀ i,LQ D (ga.getD i 0))(j:Rat)(E:Nat)(hE:E<=10000000)(C:LQ E j)(w:World)(h:Hp)(g:G w h)(S:Sq u ga h)(tb:Tab h):CR 271 #[.agg #[.slice z m x],qY a u ga.length y,qv j] w h (fun v h1=>∃ bk,v=oA (a*j) (sB bk) ((hO m).map fun i=>ga.getD i 0*j).length m/\Sq (sB bk) ((hO m).map fun i=>ga.getD i 0*j) h1):=by
 have e:=(((sS g).aS S).add (K:=fun B=>Tab B) tb);refine go Tryz.func271 [(0,.agg #[qS z m x]),(1,qY a u ga.length y),(2,qv j)] rfl (aD (lA 3 75 ([qS z m x]) e (fun Q w2 h3 e=>lA 4 51 (qZ a u ga.length y) e (fun H w5 h6 e=>lA 5 29 (qc j) e (fun I w8 h9 e=>lA 6 51 ([qF,uV 0,eS,uV 0,eS,sZ]) e (fun J _ _ e=>af ?_))))));have Y:=e;refine cR 7 [⟨6,7,.cells (J8 [qF,uV 0,eS,uV 0,eS,sZ]) 51 (0,0)⟩] mixed e (bv (dM kR (fun _ _=>by kernel_rfl)) aq) (eO 0 9 [(3,0,1)] (.agg #[qS z m x]) e (eV 1 10 (pB H) (eO 2 11 [(2,0,5)] (qv a) e (eO 3 12 [(1,0,5)] (qv j) e ?_))));have bl:=LQ.mul ha C;refine ai 4 13 e (fun _ _ e=>iS a j (LQ.mono ha oM) (LQ.mono C oM) _ _ e.g e.f.1) (fun _ _ e=>eC 5 14 e (fun _ _ e=>jt z m x hm (a*j) h _ _ e.g e.st.sz) ?_);rintro _ _ _ _ _ e ⟨p,rfl,hNn⟩;replace e:=(e.add (K:=fun B=>Nw h.size B p 29 ((yp m (0:Rat)).flatMap qc)) hNn);refine eP [] Y e 51 [qF,uV 0,eS,uV 0,eS,sZ] (fun _ _ F e=>tP 7 0 0 (qZ (a*j) (sB p) m m) e (fun _ e=>tN (cQ (aD ?_))));obtain ⟨zf,e⟩:=e.takeL (e.f.1).1 (e.f.1).2.2;replace e:=e.aS (S.gw e.st.up.gr.gw);replace e:=e.add (K:=fun B=>Tab B) (tb.gw e.st.up.gr.gw);replace e:=e.to [⟨p,29,((yp m 0)).flatMap qc⟩,⟨F,51,qZ (a*j) (sB p) m m⟩,⟨J,51,[qF,uV 0,eS,uV 0,eS,sZ]⟩,⟨I,29,qc j⟩,⟨H,51,qZ a u ga.length y⟩,⟨Q,75,[qS z m x]⟩] [];refine lL e [.v (qP F 5),.o (qS (sB p) m m) 1 5 1,.v (nV m),.c] (bh ?_);refine cj _ (CG.loop (fun V Γ w_=>∃ (k:Nat)(L:List Rat)(B:Hp),V=m-k/\Γ=[(4,pB H),(5,pB I),(6,pB J),(7,pB F),(17,nV m),(18,nV k)]/\SS w h w_ B [⟨p,29,(L).flatMap qc⟩,⟨F,51,qZ (a*j) (sB p) m m⟩,⟨J,51,[qF,uV 0,eS,uV 0,eS,sZ]⟩,⟨I,29,qc j⟩,⟨H,51,qZ a u ga.length y⟩,⟨Q,75,[qS z m x]⟩] [] [fun B=>Tab B,Sq u ga]/\k<=m/\L.length=m/\L=dC (fun i=>ga.getD i 0*j) m k) _ ⟨0,yp m 0,zf,rfl,rfl,e.to _ _,JL _,KX,(iu _ _)⟩ ?_);rintro _ _ _ ⟨k,L,_,bf,rfl,e,hk,W,X⟩;refine aD ?_;cases U:(decide ((k:Int)<(m:Int)))
 .
  have zd:=oF U;refine lB 19 U (af (cW (CG.exit ?_)))
  show CG _ _ _ _ _ _ _ _
  refine aa e [.o (qY (a*j) (sB p) m m) 1 0 6] (lP 2 0 (qZ (a*j) (sB p) m m) e (fun _ e=>lN (kX ?_)));have Z:k=m:=by omega
  rw[Z,fd] at X
  subst X;replace e:=e.to [⟨p,29,(((hO m).map fun i=>ga.getD i 0*j)).flatMap qc⟩,⟨F,51,qZ (a*j) (sB p) m m⟩,⟨J,51,qZ (a*j) (sB p) m m⟩,⟨I,29,qc j⟩,⟨H,51,qZ a u ga.length y⟩,⟨Q,75,[qS z m x]⟩] [];obtain ⟨_,e,O,bb,bm⟩:=e.pub 0;replace e:=(e.to [⟨F,51,qZ (a*j) (sB p) m m⟩,⟨J,51,qZ (a*j) (sB p) m m⟩,⟨I,29,qc j⟩,⟨H,51,qZ a u ga.length y⟩,⟨Q,75,[qS z m x]⟩] []).aS (SlO.of_flat (sz:=5) (f:=qc) (d:=0) (b:=p) (o:=0) (l:=((hO m).map fun i=>ga.getD i 0*j)) (fun _=>rfl) O);exact e.ret [(1,0,6)] (qY (a*j) (sB p) m m) (⟨_,by rw[fV],e.f.1⟩)
 have zd:=oT U;refine lB 19 U (af (cl (cK (cQ (kZ (aa e aK (lN (cR 10 [] mixed e aq ?_))))))));refine eV 0 21 (qP F 5) (eO 1 22 [(1,5,1)] (qS (sB p) m m) e (eV 2 23 (nV k) (eV 3 24 (qP H 5) (eO 4 25 [(4,5,1)] (qS u ga.length y) e (eV 5 26 (nV k) (eX 6 27 u ga.length y 5 (k:Nat) k ((e.f.2.1).ok oM) (eH 7 28 (qv (ga.getD k 0)) e ((e.f.2.1).el k oM) (eO 8 29 [(3,0,5)] (qv j) e ?_))))))));have bd:=LQ.mul (M k) C;refine ai 9 30 e (fun _ _ e=>iS (ga.getD k 0) j (LQ.mono (M k) oM) (LQ.mono C oM) _ _ e.g e.f.1) (fun _ _ e=>bY e (fun _ zg e=>tX 10 31 (sB p) m m 5 (k:Nat) k rfl (tW 11 0 L qc 5 k ((ga.getD k 0)*j) e oM (fun _ e=>?_))));have ze:((L).set k ((ga.getD k 0)*j)).length=m:=by rw[Gx];exact W
 replace e:=e.to [⟨p,29,((L).set k ((ga.getD k 0)*j)).flatMap qc⟩,⟨F,51,qZ (a*j) (sB p) m m⟩,⟨J,51,[qF,uV 0,eS,uV 0,eS,sZ]⟩,⟨I,29,qc j⟩,⟨H,51,qZ a u ga.length y⟩,⟨Q,75,[qS z m x]⟩] [];refine tN (kQ (bI 32 ((k:Nat)+1) (k+1) ?_));refine lL e ac (lD ?_);intro a_ ka;refine ⟨_,_,?_,⟨k+1,(L).set k ((ga.getD k 0)*j),zg,rfl,rfl,e.to _ _,oM,ze,(by rw[X];exact e7 oM)⟩,ka.to _ kR⟩
 omega
theorem E0 (e:Z9)(m j:Nat)(hm:m<=1000)(fs:List Rat)(O:fs.length=m)(i:Nat)(M:i<m)(w:World)(h:Hp)(g:G w h)(F:Sq e fs h):CR 267 #[.agg #[.slice e m j],nV i] w h (fun v h1=>∃ J,v=oA (fs.getD i 0) (sB J) (d6 m i).length m/\Sq (sB J) (d6 m i) h1):=by
 have a:=((sS g).aS F);have D:(yp m (0:Rat)).length=m:=KX;refine go Tryz.func267 [(0,.agg #[qS e m j]),(1,nV i)] rfl (aD (lA 2 75 ([qS e m j]) a (fun x w2 V a=>lA 4 51 ([qF,uV 0,eS,uV 0,eS,sZ]) a (fun y S X a=>af ?_))));have z:=a;refine cR 8 [⟨7,5,.cells (J8 [qF,uV 0,eS,uV 0,eS,sZ]) 51 (0,0)⟩] mixed a (bv (dM kR (fun _ _=>by kernel_rfl)) aq) (eO 0 6 [(1,0,1)] (.agg #[qS e m j]) a (eV 1 7 (pB x) (eO 2 8 [(1,0,1)] (qS e m j) a (eV 3 9 (nV i) (eX 4 10 e m j 5 (i:Nat) i ((a.f.1).ok oM) (eH 5 11 (qv (fs.getD i 0)) a ((a.f.1).el i oM) (eC 6 12 a (fun _ _ a=>jt e m j hm (fs.getD i 0) h _ _ a.g a.st.sz) ?_)))))));rintro _ _ _ W Q a ⟨c,rfl,B⟩;replace a:=(a.add (K:=fun L=>Nw h.size L c 29 ((yp m (0:Rat)).flatMap qc)) B);refine eP [] z a 51 [qF,uV 0,eS,uV 0,eS,sZ] (fun U _ p a=>tP 8 0 0 (qZ (fs.getD i 0) (sB c) m m) a (fun _ a=>tN (cQ ?_)));obtain ⟨_,a⟩:=a.takeL (a.f.1).1 (a.f.1).2.2;replace a:=a.aS (F.gw a.st.up.gr.gw);replace a:=a.to [⟨c,29,((yp m 0)).flatMap qc⟩,⟨p,51,qZ (fs.getD i 0) (sB c) m m⟩,⟨y,51,[qF,uV 0,eS,uV 0,eS,sZ]⟩,⟨x,75,[qS e m j]⟩] [];refine cR 4 [] mixed a aq (eV 0 13 (qP p 5) (eO 1 14 [(1,5,1)] (qS (sB c) m m) a (eV 2 15 (nV i) (ai 3 16 a (fun _ _ a=>og (1) kD kD _ _ a.g) (fun _ _ a=>bY a (fun _ _ a=>tX 4 17 (sB c) m m 5 (i:Nat) i rfl (tW 5 0 (yp m 0) qc 5 i ((1:Int):Rat) a oM (fun _ a=>?_))))))));have H:(((yp m 0)).set i ((1:Int):Rat)).length=m:=by rw[Gx];exact KX
 replace a:=a.to [⟨c,29,(((yp m 0)).set i ((1:Int):Rat)).flatMap qc⟩,⟨p,51,qZ (fs.getD i 0) (sB c) m m⟩,⟨y,51,[qF,uV 0,eS,uV 0,eS,sZ]⟩,⟨x,75,[qS e m j]⟩] [];refine xL (lL a [.o (qY (fs.getD i 0) (sB c) m m) 1 0 6] (lP 2 0 (qZ (fs.getD i 0) (sB c) m m) a (fun _ a=>lN (kX ?_))));replace a:=a.to [⟨c,29,(((yp m 0)).set i ((1:Int):Rat)).flatMap qc⟩,⟨p,51,qZ (fs.getD i 0) (sB c) m m⟩,⟨y,51,qZ (fs.getD i 0) (sB c) m m⟩,⟨x,75,[qS e m j]⟩] [];obtain ⟨_,a,u,I,C⟩:=a.pub 0;replace a:=(a.to [⟨p,51,qZ (fs.getD i 0) (sB c) m m⟩,⟨y,51,qZ (fs.getD i 0) (sB c) m m⟩,⟨x,75,[qS e m j]⟩] []).aS (SlO.of_flat (sz:=5) (f:=qc) (d:=0) (b:=c) (o:=0) (l:=((yp m 0)).set i ((1:Int):Rat)) (fun _=>rfl) u);exact a.ret [(1,0,6)] (qY (fs.getD i 0) (sB c) m m) (⟨_,by rw[wm],a.f.1⟩)
theorem Hw (f:Z9)(m i:Nat)(hm:m<=1000)(a:Rat)(e:Z9)(c d:Nat)(w:World)(h:Hp)(g:G w h):CV 266 #[.agg #[.slice f m i],qY a e c d] w h (qv a):=by
 have b:=sS g;exact go Tryz.func266 [(0,.agg #[qS f m i]),(1,qY a e c d)] rfl (aD (lA 2 75 ([qS f m i]) b (fun p w2 x b=>lA 3 51 (qZ a e c d) b (fun j u B b=>lA 4 29 a1 b (fun y l z b=>aR (lL b [.v (pB j),.o (qX a) 1 0 5] (lP 0 0 (qC a) b (fun _ b=>ae b [(0,0,5)] (qX a) rfl))))))))
theorem nU (l:Z9)(m e:Nat)(hm:m<=1000)(K D:Nat)(y:1<=K)(x:K<=1000000)(S:D<=20000000)(a:Rat)(ga:List Rat)(d:Z9)(j:Nat)(F:ga.length=m)(ha:LQ K a)(B:∀ i,LQ D (ga.getD i 0))(hz:a.num≠0)(w:World)(h:Hp)(g:G w h)(C:Sq d ga h)(Q:Tab h):CR 268 #[.agg #[.slice l m e],qY a d ga.length j] w h (fun v h1=>∃ J,v=oA ((((1:Int):Rat)/a)) (sB J) ((hO m).map fun i=>ga.getD i 0*(-((((1:Int):Rat)/a)*(((1:Int):Rat)/a)))).length m/\Sq (sB J) ((hO m).map fun i=>ga.getD i 0*(-((((1:Int):Rat)/a)*(((1:Int):Rat)/a)))) h1):=by
 have b:=(((sS g).aS C).add (K:=fun L=>Tab L) Q);refine go Tryz.func268 [(0,.agg #[qS l m e]),(1,qY a d ga.length j)] rfl (aD (lA 2 75 ([qS l m e]) b (fun X w2 Z b=>lA 3 51 (qZ a d ga.length j) b (fun O Y h6 b=>lA 4 51 ([qF,uV 0,eS,uV 0,eS,sZ]) b (fun b7 W h9 b=>af ?_)))));have c:=b;refine cR 8 [⟨7,5,.cells (J8 [qF,uV 0,eS,uV 0,eS]) 29 (0,0)⟩] mixed b (bv (dM kR (fun _ _=>by kernel_rfl)) aq) (eV 1 10 (pB O) (eO 2 11 [(1,0,5)] (qv a) b (ai 0 9 b (fun _ _ b=>og (1) kD kD _ _ b.g) (fun _ _ b=>?_))));have p:=LQ.div (LQ.lit (z:=1) kD) ha;refine ai 3 12 b (fun _ _ b=>pg ((1:Int):Rat) a (LQ.mono (LQ.lit (z:=1) kD) oM) (LQ.mono ha oM) hz _ _ b.g b.f.1) (fun _ _ b=>eV 4 8 (.tuple #[qv (((1:Int):Rat)/a),qT]) (eV 5 13 (qv (((1:Int):Rat)/a)) (eV 6 14 qT (eP [] c b 29 [qF,uV 0,eS,uV 0,eS] (fun _ _ M b=>tP 8 0 0 (qc (((1:Int):Rat)/a)) b (fun _ b=>tV 9 6 qT (tN (cQ ?_))))))));have c:=b;refine cR 8 [⟨7,7,.cells (J8 [qF,uV 0,eS,uV 0,eS,sZ]) 51 (0,0)⟩] mixed b (bv (dM kR (fun _ _=>by kernel_rfl)) aq) (eO 0 15 [(3,0,1)] (.agg #[qS l m e]) b (eO 1 16 [(2,0,6)] (qY a d ga.length j) b (eO 2 17 [(0,0,5)] (qv (((1:Int):Rat)/a)) b (eO 3 18 [(0,0,5)] (qv (((1:Int):Rat)/a)) b ?_))));have I:=LQ.mul p p;refine ai 4 19 b (fun _ _ b=>iS (((1:Int):Rat)/a) (((1:Int):Rat)/a) (LQ.mono p oM) (LQ.mono p oM) _ _ b.g b.f.1) (fun _ _ b=>?_);have V:LQ ((1+K)+(1+K)) (-((((1:Int):Rat)/a)*(((1:Int):Rat)/a))):=LQ.neg I;refine ai 5 20 b (fun _ _ b=>Bd ((((1:Int):Rat)/a)*(((1:Int):Rat)/a)) (LQ.mono I oM) _ _ b.g) (fun _ _ b=>eC 6 21 b (fun _ _ b=>wl l m e hm K D y x S a ga d j F ha B (-((((1:Int):Rat)/a)*(((1:Int):Rat)/a))) (2*K+2) oM (LQ.mono V oM) _ _ b.g b.f.2.1 b.f.1) ?_);rintro _ _ _ _ _ b ⟨u,rfl,H⟩;replace b:=b.aS H;exact eP [] c b 51 [qF,uV 0,eS,uV 0,eS,sZ] (fun _ _ U b=>tP 8 0 0 (qZ (a*(-((((1:Int):Rat)/a)*(((1:Int):Rat)/a)))) (sB u) (((hO m).map fun i=>ga.getD i 0*(-((((1:Int):Rat)/a)*(((1:Int):Rat)/a)))).length) m) b (fun _ b=>xL (lL b [.o (qv (((1:Int):Rat)/a)) 1 0 5,.v (pB U)] (lP 0 0 (qc (((1:Int):Rat)/a)) b (fun _ b=>aR (lL b [.o (qY (((1:Int):Rat)/a) (sB u) (((hO m).map fun i=>ga.getD i 0*(-((((1:Int):Rat)/a)*(((1:Int):Rat)/a)))).length) m) 0 0 6] (lP 2 0 (qZ (((1:Int):Rat)/a) (sB u) (((hO m).map fun i=>ga.getD i 0*(-((((1:Int):Rat)/a)*(((1:Int):Rat)/a)))).length) m) b (fun _ b=>ae b [(2,0,6)] (qY (((1:Int):Rat)/a) (sB u) (((hO m).map fun i=>ga.getD i 0*(-((((1:Int):Rat)/a)*(((1:Int):Rat)/a)))).length) m) (⟨_,rfl,b.f.1⟩)))))))))
section
variable {a:Rat}
theorem DZ (h:¬a.num.sign<0):a=a8 a:=by
 unfold a8;rw[if_neg (fun k=>h (by have:=KU.2 k;omega))]
theorem Dw (h:a.num.sign<0):a*((-1:Int):Rat)=a8 a:=by
 unfold a8;rw[if_pos (KU.1 (pV h)),CK];grind
theorem E5 {s:Rat}(h:s=a8 a):s+((1:Int):Rat)≠0:=by
 have b:0<=a8 a:=by
  unfold a8;split
  ·rename_i h
   have:a<0:=by rw[<-KW,<-KG];omega
   grind
  ·rename_i h;exact KG.1 oM
 rw[h,i1];grind
theorem vQ {op:Int}{a b:Rat}(h:op=12/\0<dV a b\/op=13/\dV a b<0):op=12/\b<a\/op=13/\a<b:=by
 rcases h with ⟨h1,h2⟩|⟨h1,h2⟩
 ·exact .inl ⟨h1,iw.1 h2⟩
 ·exact .inr ⟨h1,iq.1 h2⟩
theorem xK {op:Int}{a b:Rat}(h:op=12/\dV a b<0\/op=13/\0<dV a b):op=12/\a<b\/op=13/\b<a:=by
 rcases h with ⟨h1,h2⟩|⟨h1,h2⟩
 ·exact .inl ⟨h1,iq.1 h2⟩
 ·exact .inr ⟨h1,iw.1 h2⟩
end
theorem nY (j:Z9)(m e:Nat)(hm:m<=1000)(K D:Nat)(u:1<=K)(p:K<=1000000)(L:D<=20000000)(y:Nat)(C:Bool)(a:Rat)(ga:List Rat)(l:Z9)(o:Nat)(B:ga.length=m)(ha:LQ K a)(x:∀ i,LQ D (ga.getD i 0))(w:World)(h:Hp)(g:G w h)(z:Sq l ga h)(J:Tab h):CR 86 #[.agg #[.iface 75 (.agg #[.slice j m e]),.map (some y),.bool C],qY a l ga.length o] w h (fun v h1=>∃ F,v=oA (a*((-1:Int):Rat)) (sB F) ((hO m).map fun i=>ga.getD i 0*((-1:Int):Rat)).length m/\Sq (sB F) ((hO m).map fun i=>ga.getD i 0*((-1:Int):Rat)) h1):=by
 have b:=(((sS g).aS z).add (K:=fun H=>Tab H) J);refine go Tryz.func86 [(0,.agg #[.iface 75 (.agg #[qS j m e]),.map (some y),.bool C]),(1,qY a l ga.length o)] rfl (aD (lA 2 81 ([.iface 75 (.agg #[qS j m e]),.map (some y),.bool C]) b (fun I w2 S b=>lA 3 51 (qZ a l ga.length o) b (fun Q O W b=>lA 4 51 ([qF,uV 0,eS,uV 0,eS,sZ]) b (fun U M V b=>af (cR 7 [] mixed b aq ?_))))));refine eV 0 5 (pB I) (eO 1 6 [(2,0,1)] (.iface 75 (.agg #[qS j m e])) b (eO 2 7 [(1,0,6)] (qY a l ga.length o) b (eV 4 9 (.iface 75 (.agg #[qS j m e])) (eV 5 10 (.iface 75 (.agg #[qS j m e])) (ai 3 8 b (fun _ _ b=>og (-1) kD kD _ _ b.g) (fun _ _ b=>eC 6 11 b (fun _ _ b=>wl j m e hm K D u p L a ga l o B ha x ((-1:Int):Rat) 1 kD (LQ.int kD kD) _ _ b.g b.f.2.1 b.f.1) ?_))))));rintro _ _ _ _ _ b ⟨c,rfl,d⟩;replace b:=b.aS d;exact bY b (fun _ _ b=>tP 7 0 0 (qZ (a*((-1:Int):Rat)) (sB c) (((hO m).map fun i=>ga.getD i 0*((-1:Int):Rat)).length) m) b (fun _ b=>tN (kX (b.ret [(0,0,6)] (qY (a*((-1:Int):Rat)) (sB c) (((hO m).map fun i=>ga.getD i 0*((-1:Int):Rat)).length) m) (⟨_,rfl,b.f.1⟩)))))
theorem Cw (j:Z9)(m e:Nat)(hm:m<=1000)(K D:Nat)(hK1:1<=K)(hKD:K<=60000)(hD:D<=10000000)(M:Nat)(op n:Int)(q:Rat)(s:ByteArray)(A:Z9)(kn c:Nat)(a:Rat)(ga:List Rat)(l:Z9)(p:Nat)(H:ga.length=m)(ha:LQ K a)(B:∀ i,LQ D (ga.getD i 0))(hop:7<=op/\op<=11)(hn:op=8 -> -12<=n/\n<=12)(w:World)(h:Hp)(g:G w h)(hSa:Sq l ga h)(tb:Tab h):CR 50 #[.agg #[.iface 75 (.agg #[.slice j m e]),.map (some M),.bool false],ar ⟨op,n,q,s,A,kn,c⟩,qY a l ga.length p] w h (fun v h1=>∃ (q_:Rat)(G_:List Rat)(A_:Z9)(c_:Nat),v=.tuple #[oA q_ A_ G_.length c_,iV (co op n a 0)]/\Sq A_ G_ h1/\(co op n a 0=0->q_=gh op n 0 a 0/\G_=jI m op n a 0 ga [])):=by
 have b:=(((sS g).aS hSa).add (K:=fun d=>Tab d) tb);refine go Tryz.func50 [(0,.agg #[.iface 75 (.agg #[qS j m e]),.map (some M),qF]),(1,ar ⟨op,n,q,s,A,kn,c⟩),(2,qY a l ga.length p)] rfl (aD (lA 3 81 ([.iface 75 (.agg #[qS j m e]),.map (some M),qF]) b (fun y w2 h3 b=>lA 4 32 (aI ⟨op,n,q,s,A,kn,c⟩) b (fun I w5 h6 b=>lA 5 51 (qZ a l ga.length p) b (fun Z w8 h9 b=>lA 6 51 ([qF,uV 0,eS,uV 0,eS,sZ]) b (fun Y _ _ b=>lL b ac (aR (lL b [.v (pB y),.o (.iface 75 (.agg #[qS j m e])) 3 0 1,.o (qY a l ga.length p) 1 0 6] (am 14 b (Hw j m e hm a l ga.length p _ _ b.g) (fun _ _ b=>am 15 b (gM a (LQ.mono ha oM) _ _ b.g) (fun _ zn b=>?_)))))))))));have cr:=kl a.num;refine lL b ac (af (aa b [.v (pB I),.o (iV op) 2 0 1] (bh (aD ?_))));cases zc:((op:Int) == (7:Int))
 .
  have zq:=ag zc;refine lB 19 zc (lL b ac (ah (aD ?_)));cases zd:((op:Int) == (8:Int))
  .
   have zr:=ag zd;refine lB 24 zd (lL b ac (ah (aD ?_)));cases ze:((op:Int) == (11:Int))
   .
    have zs:=ag ze;refine lB 62 ze (lL b ac (ah (cK (cQ (aa b ac ?_)))));cases zf:((a.num.sign:Int) == (0:Int))
    .
     have zt:=ag zf;refine lB 100 zf (ah (cK (cQ (aa b ac ?_))));cases zg:(decide ((0:Int)<(a.num.sign:Int)))
     .
      have zu:=oF zg;refine lB 103 zg (ah (cK (cQ (aa b [.v (pB I),.o (iV op) 2 0 1] ?_))));cases zi:((op:Int) == (9:Int))
      .
       have zv:=ag zi;refine lB 107 zi (ah (cK (aa b [.v (pB y),.o (.iface 75 (.agg #[qS j m e])) 3 0 1,.v (qv (0:Rat))] (lC 114 b (jv j m e hm (0:Rat) _ _ b.g) ?_))));rintro _ _ _ b ⟨bk,rfl,b2⟩;replace b:=b.aS b2;refine lP 0 0 (qZ (0:Rat) (sB bk) ((yp m (0:Rat)).length) m) b (fun _ b=>lL b ac (lN (kX ?_)));obtain rfl:op=10:=by omega
       have C:co 10 n a 0=0:=(dz (fun d=>absurd d kD) (fun d=>absurd d kD) (fun _=>j7 oM) (fun d=>absurd d kD));exact b.ret [(0,0,6)] (.tuple #[qY (0:Rat) (sB bk) ((yp m (0:Rat)).length) m,iV 0]) (⟨(0:Rat),(yp m (0:Rat)),_,_,by rw[C],b.f.1,fun _=>(I0 oM)⟩)
      have zv:=eq_of_beq zi;refine lB 107 zi (au (aa b [.o (.agg #[.iface 75 (.agg #[qS j m e]),.map (some M),qF]) 3 0 3,.o (qY a l ga.length p) 1 0 6] (lC 110 b (nY j m e hm (14*K+40) (D+40*K+100) oM oM oM M false a ga l p H (LQ.mono ha oM) (fun i=>LQ.mono (B i) oM) _ _ b.g b.f.2.1 b.f.1) ?_)));rintro _ _ _ b ⟨bq,rfl,b0⟩;replace b:=b.aS b0;refine lP 0 0 (qZ (a*((-1:Int):Rat)) (sB bq) (((hO m).map fun i=>ga.getD i 0*((-1:Int):Rat)).length) m) b (fun _ b=>lL b ac (lN (kX ?_)));obtain rfl:op=9:=by omega
      have C:co 9 n a 0=0:=(dz (fun d=>absurd d kD) (fun d=>absurd d kD) (fun _=>j7 oM) (fun d=>absurd d kD));exact b.ret [(0,0,6)] (.tuple #[qY (a*((-1:Int):Rat)) (sB bq) (((hO m).map fun i=>ga.getD i 0*((-1:Int):Rat)).length) m,iV 0]) (⟨a*((-1:Int):Rat),((hO m).map fun i=>ga.getD i 0*((-1:Int):Rat)),_,_,by rw[C],b.f.1,fun _=>(JE oM)⟩)
     have zu:=oT zg;refine lB 103 zg (au (aa b [.o (qY a l ga.length p) 1 0 6] (lP 0 0 (qZ a l ga.length p) b (fun _ b=>lL b ac (lN (kX ?_))))));have C:co op n a 0=0:=(dz (fun d=>absurd d oM) (fun d=>absurd d oM) (fun _=>j7 oM) (fun d=>absurd d oM));exact b.ret [(0,0,6)] (.tuple #[qY a l ga.length p,iV 0]) (⟨a,ga,_,_,by rw[C],b.f.2.1,fun _=>(IE oM H oM)⟩)
    have zt:=eq_of_beq zf;refine lB 100 zf (au (aa b [.o (qY a l ga.length p) 1 0 6] (lP 0 0 (qZ a l ga.length p) b (fun _ b=>lL b ac (lN (kX ?_))))));have C:co op n a 0=7:=(Cy (.inl ⟨by omega,Be oM⟩));exact b.ret [(0,0,6)] (.tuple #[qY a l ga.length p,iV 7]) (⟨a,ga,_,_,by rw[C],b.f.2.1,fun d=>absurd d (by rw[C];decide)⟩)
   have zs:=eq_of_beq ze;refine lB 62 ze ?_;refine lL b ac (au (CG.join (fun Γ w_=>∃  (d:Hp),Γ=[(3,pB y),(4,pB I),(5,pB Z),(6,pB Y),(8,iV a.num.sign)]/\SS w h w_ d [⟨Y,51,[qF,uV 0,eS,uV 0,eS,sZ]⟩,⟨Z,51,qZ a l ga.length p⟩,⟨I,32,aI ⟨op,n,q,s,A,kn,c⟩⟩,⟨y,81,[.iface 75 (.agg #[qS j m e]),.map (some M),qF]⟩] [] [fun d=>Tab d,Sq l ga]) ?_ ?_))
   .
    refine aa b [.v (qP y 2),.o qF 3 2 1,.c] (lG 66 ?_);refine lG 67 (lL b [.v qF] (ah (CG.skip ?_)));intro a_ L;exact ⟨_,⟨zn,rfl,b.to _ _⟩,L.to _ kR⟩
   rintro _ _ ⟨_,rfl,b⟩;refine aa b [.o (qY a l ga.length p) 1 0 6] (lA 10 51 ([qF,uV 0,eS,uV 0,eS,sZ]) b (fun zD _ zH b=>lP 0 0 (qZ a l ga.length p) b (fun _ b=>?_)));refine lN (CG.join (fun Γ w_=>∃ (x:Rat)(u:List Rat)(S:Z9)(cx:Nat)(d:Hp),Γ=[(3,pB y),(4,pB I),(5,pB Z),(6,pB Y),(8,iV a.num.sign),(10,pB zD)]/\SS w h w_ d [⟨zD,51,qZ x S u.length cx⟩,⟨Y,51,[qF,uV 0,eS,uV 0,eS,sZ]⟩,⟨Z,51,qZ a l ga.length p⟩,⟨I,32,aI ⟨op,n,q,s,A,kn,c⟩⟩,⟨y,81,[.iface 75 (.agg #[qS j m e]),.map (some M),qF]⟩] [] [Sq S u,fun d=>Tab d,Sq l ga]/\x=a8 a/\(∀ i,i<m->u.getD i 0=(if a.num.sign<0 then ga.getD i 0*((-1:Int):Rat) else ga.getD i 0))/\u.length=m/\LQ (K+1) x/\(∀ i,LQ (D+1) (u.getD i 0))) ?_ ?_)
   .
    refine aa b ac ?_;cases zj:(decide ((a.num.sign:Int)<(0:Int)))
    .
     have zw:=oF zj;refine lB 72 zj (ah (CG.skip ?_));intro a_ L;replace b:=b.aS b.f.2.1;exact ⟨_,⟨a,ga,l,p,zH,rfl,b.to _ _,(DZ oM),(fun i_ _=>by rw[if_neg oM]),H,(ha.mono oM),(fun i=>(B i).mono oM)⟩,L.to _ kR⟩
    have zw:=oT zj;refine lB 72 zj (au (kQ (lL b [.o (.agg #[.iface 75 (.agg #[qS j m e]),.map (some M),qF]) 4 0 3,.o (qY a l ga.length p) 2 0 6] (lC 75 b (nY j m e hm (14*K+40) (D+40*K+100) oM oM oM M false a ga l p H (LQ.mono ha oM) (fun i=>LQ.mono (B i) oM) _ _ b.g b.f.2.1 b.f.1) ?_))));rintro _ _ zI b ⟨bt,rfl,cb⟩;replace b:=b.aS cb;refine lP 0 0 (qZ (a*((-1:Int):Rat)) (sB bt) (((hO m).map fun i=>ga.getD i 0*((-1:Int):Rat)).length) m) b (fun _ b=>lD ?_);intro a_ L;replace b:=(b.tl.aS b.f.1);exact ⟨_,⟨a*((-1:Int):Rat),((hO m).map fun i=>ga.getD i 0*((-1:Int):Rat)),sB bt,m,zI,rfl,b.to _ _,(Dw oM),(fun i_ d=>by rw[if_pos oM,jx d]),(fV _ _),(LQ.mono (ha.mul (LQ.int (z:=-1) kD kD)) oM),(l9 (fun i=>LQ.mono ((B i).mul (LQ.int (z:=-1) kD kD)) oM) oM)⟩,L.to _ kR⟩
   rintro _ _ ⟨x,u,S,cx,_,rfl,b,hxq,hxg,hlx,Q,F⟩;refine cQ (cR 23 [] mixed b aq ?_);refine eV 0 76 (pB y) (eO 1 77 [(4,0,1)] (.iface 75 (.agg #[qS j m e])) b (eO 2 78 [(2,0,6)] (qY a l ga.length p) b (eV 3 79 (pB y) (eO 4 80 [(4,0,1)] (.iface 75 (.agg #[qS j m e])) b (eV 5 81 (pB y) (eO 6 82 [(4,0,1)] (.iface 75 (.agg #[qS j m e])) b (eO 7 83 [(0,0,6)] (qY x S u.length cx) b (eV 8 84 (pB y) (eO 9 85 [(4,0,1)] (.iface 75 (.agg #[qS j m e])) b (eV 11 87 (.iface 75 (.agg #[qS j m e])) (eV 12 88 (.iface 75 (.agg #[qS j m e])) (eV 14 90 (.iface 75 (.agg #[qS j m e])) (eV 15 91 (.iface 75 (.agg #[qS j m e])) (eV 17 93 (.iface 75 (.agg #[qS j m e])) (eV 18 94 (.iface 75 (.agg #[qS j m e])) (eV 20 96 (.iface 75 (.agg #[qS j m e])) (eV 21 97 (.iface 75 (.agg #[qS j m e])) (ai 10 86 b (fun _ _ b=>og (1) kD kD _ _ b.g) (fun _ _ b=>eC 13 89 b (fun _ _ b=>jv j m e hm ((1:Int):Rat) _ _ b.g) ?_)))))))))))))))))));rintro _ _ _ _ _ b ⟨cm,rfl,b5⟩;replace b:=b.aS b5;have cc:=hxq;have O:LQ (K+3) (x+((1:Int):Rat)):=LQ.mono (LQ.add Q (LQ.int (z:=1) kD kD)) oM;have W:∀ i,LQ (D+4) (((hO m).map fun i=>u.getD i 0+(yp m (0:Rat)).getD i 0).getD i 0):=l9 (fun i=>LQ.mono (LQ.add (F i) (by rw[fj];exact im (nR 1))) oM) oM;refine eC 16 92 b (fun _ _ b=>Fi j m e hm (14*K+40) (D+40*K+100) oM oM oM x u S cx hlx (LQ.mono Q oM) (fun i=>LQ.mono (F i) oM) ((1:Int):Rat) (yp m (0:Rat)) (sB cm) m KX (LQ.mono (LQ.int kD kD) oM) (fun i=>by rw[fj];exact im oM) _ _ b.g b.f.2.1 b.f.1 b.f.r.1) ?_;rintro _ _ _ _ _ b ⟨ch,rfl,b6⟩;replace b:=b.aS b6;refine eC 19 95 b (fun _ _ b=>nU j m e hm (14*K+40) (D+40*K+100) oM oM oM (x+((1:Int):Rat)) ((hO m).map fun i=>u.getD i 0+(yp m (0:Rat)).getD i 0) (sB ch) m (fV _ _) (LQ.mono O oM) (fun i=>LQ.mono (W i) oM) (sL (E5 cc)) _ _ b.g b.f.1 b.f.r.2.1) ?_;rintro _ _ _ _ _ b ⟨cd,rfl,b9⟩;replace b:=b.aS b9;refine eC 22 98 b (fun _ _ b=>Cf j m e hm (14*K+40) (D+40*K+100) oM oM oM a ga l p H (LQ.mono ha oM) (fun i=>LQ.mono (B i) oM) (((1:Int):Rat)/(x+((1:Int):Rat))) ((hO m).map fun i=>((hO m).map fun i=>u.getD i 0+(yp m (0:Rat)).getD i 0).getD i 0*(-((((1:Int):Rat)/(x+((1:Int):Rat)))*(((1:Int):Rat)/(x+((1:Int):Rat)))))) (sB cd) m (fV _ _) (LQ.mono (LQ.div (LQ.int (z:=1) kD kD) O) oM) (l9 (fun i=>LQ.mono ((W i).mul ((LQ.div (LQ.int (z:=1) kD kD) O).mul (LQ.div (LQ.int (z:=1) kD kD) O)).neg) oM) oM) _ _ b.g b.f.q.2.1 b.f.1 b.f.q.1) ?_;rintro _ _ _ _ _ b ⟨bn,rfl,bz⟩;replace b:=b.aS bz;refine bY b (fun _ _ b=>tP 23 1 0 (qZ (a*(((1:Int):Rat)/(x+((1:Int):Rat)))) (sB bn) (((hO m).map fun i=>ga.getD i 0*(((1:Int):Rat)/(x+((1:Int):Rat)))+a*((hO m).map fun i=>((hO m).map fun i=>u.getD i 0+(yp m (0:Rat)).getD i 0).getD i 0*(-((((1:Int):Rat)/(x+((1:Int):Rat)))*(((1:Int):Rat)/(x+((1:Int):Rat)))))).getD i 0).length) m) b (fun _ b=>tV 24 7 (iV 0) (tN (kX ?_))));obtain rfl:op=11:=by omega
   have C:co 11 n a 0=0:=(dz (fun d=>absurd d kD) (fun d=>absurd d kD) (fun d=>absurd d kD) (fun d=>absurd d kD));exact b.ret [(1,0,6)] (.tuple #[qY (a*(((1:Int):Rat)/(x+((1:Int):Rat)))) (sB bn) (((hO m).map fun i=>ga.getD i 0*(((1:Int):Rat)/(x+((1:Int):Rat)))+a*((hO m).map fun i=>((hO m).map fun i=>u.getD i 0+(yp m (0:Rat)).getD i 0).getD i 0*(-((((1:Int):Rat)/(x+((1:Int):Rat)))*(((1:Int):Rat)/(x+((1:Int):Rat)))))).getD i 0).length) m,iV 0]) (⟨a*(((1:Int):Rat)/(x+((1:Int):Rat))),((hO m).map fun i=>ga.getD i 0*(((1:Int):Rat)/(x+((1:Int):Rat)))+a*((hO m).map fun i=>((hO m).map fun i=>u.getD i 0+(yp m (0:Rat)).getD i 0).getD i 0*(-((((1:Int):Rat)/(x+((1:Int):Rat)))*(((1:Int):Rat)/(x+((1:Int):Rat)))))).getD i 0),_,_,by rw[C],b.f.1,fun _=>(IW hxq hxg)⟩)
  have zr:=eq_of_beq zd;refine lB 24 zd ?_;refine lL b ac (au (CG.join (fun Γ w_=>∃  (d:Hp),Γ=[(3,pB y),(4,pB I),(5,pB Z),(6,pB Y),(8,iV a.num.sign)]/\SS w h w_ d [⟨Y,51,[qF,uV 0,eS,uV 0,eS,sZ]⟩,⟨Z,51,qZ a l ga.length p⟩,⟨I,32,aI ⟨op,n,q,s,A,kn,c⟩⟩,⟨y,81,[.iface 75 (.agg #[qS j m e]),.map (some M),qF]⟩] [] [fun d=>Tab d,Sq l ga]/\(n<0->a.num.sign≠0)) ?_ ?_))
  .
   refine aa b [.v (qP I 1),.o (iV n) 2 1 1] ?_;cases zk:(decide ((n:Int)<(0:Int)))
   .
    have zx:=oF zk;refine lB 27 zk (lL b ac (lG 29 ?_));refine lG 30 (lL b [.v qF] (ah (CG.skip ?_)));intro a_ L;exact ⟨_,⟨zn,rfl,b.to _ _,(fun d=>by omega)⟩,L.to _ kR⟩
   have zx:=oT zk;refine lB 27 zk (lL b aK ?_);cases zl:((a.num.sign:Int) == (0:Int))
   .
    have zA:=ag zl;refine lB 30 zl (lL b [.v qF] (ah (CG.skip ?_)));intro a_ L;exact ⟨_,⟨zn,rfl,b.to _ _,(fun d=>by omega)⟩,L.to _ kR⟩
   have zA:=eq_of_beq zl;refine lB 30 zl (lL b [.v qT] (au (aa b [.o (qY a l ga.length p) 1 0 6] (lP 0 0 (qZ a l ga.length p) b (fun _ b=>lL b ac (lN (kX ?_)))))));obtain rfl:op=8:=by omega
   have C:co 8 n a 0=6:=(CM (.inr ⟨rfl,by omega,Be oM⟩));exact b.ret [(0,0,6)] (.tuple #[qY a l ga.length p,iV 6]) (⟨a,ga,_,_,by rw[C],b.f.2.1,fun d=>absurd d (by rw[C];decide)⟩)
  rintro _ _ ⟨zJ,rfl,b,bx⟩;refine CG.join (fun Γ w_=>∃ (x:Rat)(u:List Rat)(S:Z9)(cx:Nat)(d:Hp),Γ=[(3,pB y),(4,pB I),(5,pB Z),(6,pB Y),(8,iV a.num.sign)]/\SS w h w_ d [⟨Y,51,[qF,uV 0,eS,uV 0,eS,sZ]⟩,⟨Z,51,qZ x S u.length cx⟩,⟨I,32,aI ⟨op,n,q,s,A,kn,c⟩⟩,⟨y,81,[.iface 75 (.agg #[qS j m e]),.map (some M),qF]⟩] [] [Sq S u,fun d=>Tab d,Sq l ga]/\((0<=n/\x=a/\u=ga)\/(n<0/\a≠0/\x=(((1:Int):Rat)/a)/\u=((hO m).map fun i=>ga.getD i 0*(-((((1:Int):Rat)/a)*(((1:Int):Rat)/a))))))/\u.length=m/\LQ (1+K) x/\(∀ i,LQ (D+2*K+2) (u.getD i 0))) ?_ ?_
  .
   refine aa b [.v (qP I 1),.o (iV n) 2 1 1] ?_;cases zm:(decide ((n:Int)<(0:Int)))
   .
    have zB:=oF zm;refine lB 35 zm (ah (CG.skip ?_));intro a_ L;replace b:=b.aS b.f.2.1;exact ⟨_,⟨a,ga,l,p,zJ,rfl,b.to _ _,(.inl ⟨by omega,rfl,rfl⟩),H,(ha.mono oM),(fun i=>(B i).mono oM)⟩,L.to _ kR⟩
   have zB:=oT zm;refine lB 35 zm (au (kQ (lL b [.v (pB y),.o (.iface 75 (.agg #[qS j m e])) 3 0 1,.o (qY a l ga.length p) 1 0 6] (lC 39 b (nU j m e hm (14*K+40) (D+40*K+100) oM oM oM a ga l p H (LQ.mono ha oM) (fun i=>LQ.mono (B i) oM) (sL (j7 (bx oM))) _ _ b.g b.f.2.1 b.f.1) ?_))));rintro _ _ zK b ⟨bl,rfl,b3⟩;replace b:=b.aS b3;refine lP 1 0 (qZ (((1:Int):Rat)/a) (sB bl) (((hO m).map fun i=>ga.getD i 0*(-((((1:Int):Rat)/a)*(((1:Int):Rat)/a)))).length) m) b (fun _ b=>lD ?_);intro a_ L;replace b:=(b.tl.aS b.f.1);exact ⟨_,⟨((1:Int):Rat)/a,((hO m).map fun i=>ga.getD i 0*(-((((1:Int):Rat)/a)*(((1:Int):Rat)/a)))),sB bl,m,zK,rfl,b.to _ _,(.inr ⟨by omega,j7 (bx oM),rfl,rfl⟩),(fV _ _),(LQ.div (LQ.int (z:=1) kD kD) ha),(l9 (fun i=>LQ.mono ((B i).mul ((LQ.div (LQ.int (z:=1) kD kD) ha).mul (LQ.div (LQ.int (z:=1) kD kD) ha)).neg) (by omega:_<=D+2*K+2)) oM)⟩,L.to _ kR⟩
  rintro _ _ ⟨x,u,S,cx,_,rfl,b,hxd,hlx,Q,F⟩;refine cQ ?_;have hsr:=b;refine cR 7 [⟨6,9,.cells (J8 [qF,uV 0,eS,uV 0,eS,sZ]) 51 (0,0)⟩] mixed b (bv (dM kR (fun _ _=>by kernel_rfl)) aq) (eV 0 40 (pB y) (eO 1 41 [(3,0,1)] (.iface 75 (.agg #[qS j m e])) b (eV 3 43 (.iface 75 (.agg #[qS j m e])) (eV 4 44 (.iface 75 (.agg #[qS j m e])) (ai 2 42 b (fun _ _ b=>og (1) kD kD _ _ b.g) (fun _ _ b=>eC 5 45 b (fun _ _ b=>jv j m e hm ((1:Int):Rat) _ _ b.g) ?_))))));rintro _ _ _ _ _ b ⟨J,rfl,bf⟩;replace b:=b.aS bf;refine eP [] hsr b 51 [qF,uV 0,eS,uV 0,eS,sZ] (fun _ zE zo b=>tP 7 0 0 (qZ ((1:Int):Rat) (sB J) ((yp m (0:Rat)).length) m) b (fun _ b=>tN (cQ (aa b [.v (qP I 1),.o (iV n) 3 1 1,.v (qP I 1),.o (iV n) 3 1 1] (lI 50 (0-n) ?_)))));refine lV 51 (iV (max (n:Int) (0-n:Int))) ?_ (hr:=be (n:=(if (0-n:Int)>(n:Int) then (0-n:Int) else (n:Int))) kR (by simp only[pm]));refine lL b ac (bh ?_);replace b:=b.aS b.f.1;refine cj _ (CG.loop (fun μ_ Γ w_=>∃ (k:Nat)(Ap:Z9)(cp:Nat)(U:List Rat)(d:Hp),μ_=n.natAbs-k/\Γ=[(3,pB y),(4,pB I),(5,pB Z),(6,pB Y),(8,iV a.num.sign),(9,pB zo),(51,iV (max (n:Int) (0-n:Int))),(52,nV k)]/\SS w h w_ d [⟨zo,51,qZ (bL x k) Ap U.length cp⟩,⟨Y,51,[qF,uV 0,eS,uV 0,eS,sZ]⟩,⟨Z,51,qZ x S u.length cx⟩,⟨I,32,aI ⟨op,n,q,s,A,kn,c⟩⟩,⟨y,81,[.iface 75 (.agg #[qS j m e]),.map (some M),qF]⟩] [] [Sq Ap U,Sq (sB J) (yp m (0:Rat)),Sq S u,fun d=>Tab d,Sq l ga]/\k<=n.natAbs/\U.length=m/\(∀ i,U.getD i 0=((k:Int):Rat)*bL x (k-1)*u.getD i 0)) _ ⟨0,sB J,m,(yp m (0:Rat)),zE,rfl,rfl,b.to _ _,JL _,KX,(fun i=>by rw[fj];show (0:Rat)=((0:Int):Rat)*_*_;rw[i0];grind)⟩ ?_);rintro _ _ _ ⟨k,Ap,cp,U,_,cq,rfl,b,hk,hlp,hgp⟩;refine aD ?_;cases zb:(decide ((k:Int)<(max (n:Int) (0-n:Int):Int)))
  .
   have zp:=oF zb;refine lB 53 zb (af (cW (CG.exit ?_)))
   show CG _ _ _ _ _ _ _ _
   refine aa b [.o (qY (bL x k) Ap U.length cp) 0 0 6] (lP 1 0 (qZ (bL x k) Ap U.length cp) b (fun _ b=>lL b ac (lN (kX ?_))));obtain rfl:op=8:=by omega
   have C:co 8 n a 0=0:=(dz (fun d=>absurd d kD) (fun _ d=>by rcases hxd with ⟨h1_,_⟩|⟨_,h2_,_⟩;omega;exact h2_) (fun d=>absurd d kD) (fun d=>absurd d kD));exact b.ret [(1,0,6)] (.tuple #[qY (bL x k) Ap U.length cp,iV 0]) (⟨bL x k,U,_,_,by rw[C],b.f.1,fun _=>(by rcases hxd with ⟨h1_,e1_,e2_⟩|⟨h1_,h2_,e1_,e2_⟩;subst e1_ e2_;exact H9 h1_ oM hlp hgp;subst e1_;exact Iv h1_ h2_ oM hlp e2_ hgp)⟩)
  have zp:=oT zb;refine lB 53 zb (af (cl (cK (cQ (kZ (kQ (lL b [.v (pB y),.o (.iface 75 (.agg #[qS j m e])) 4 0 1,.o (qY (bL x k) Ap U.length cp) 0 0 6,.o (qY x S u.length cx) 2 0 6] (lC 58 b (Cf j m e hm (14*K+40) (D+40*K+100) oM oM oM (bL x k) U Ap cp hlp (LQ.mono (gC Q k) (by have:=ym (1+K) (show k<=12 by omega);omega)) (fun i=>by rw[hgp i];exact LQ.mono (((LQ.int (z:=(k:Int)) oM oM).mul (gC Q (k-1))).mul (F i)) (by have:=ym (1+K) (show k-1<=12 by omega);omega)) x u S cx hlx (LQ.mono Q oM) (fun i=>LQ.mono (F i) oM) _ _ b.g b.f.1 b.f.r.1 b.f.r.2.1) ?_))))))));rintro _ _ zG b ⟨X,rfl,bd⟩;replace b:=b.aS bd;refine lP 0 0 (qZ ((bL x k)*x) (sB X) (((hO m).map fun i=>U.getD i 0*x+(bL x k)*u.getD i 0).length) m) b (fun _ b=>lN (kQ (bI 59 ((k:Nat)+1) (k+1) ?_)));refine lL b ac (lD ?_);intro a_ L;replace b:=(b.tl.tl.aS b.f.1);refine ⟨_,_,?_,⟨k+1,sB X,m,((hO m).map fun i=>U.getD i 0*x+(bL x k)*u.getD i 0),zG,rfl,rfl,b.to _ _,oM,(fV _ _),(B4 hlx hgp)⟩,L.to _ kR⟩
  omega
 have zq:=eq_of_beq zc;refine lB 19 zc (lL b ac (au (aa b [.o (.agg #[.iface 75 (.agg #[qS j m e]),.map (some M),qF]) 3 0 3,.o (qY a l ga.length p) 1 0 6] (lC 22 b (nY j m e hm (14*K+40) (D+40*K+100) oM oM oM M false a ga l p H (LQ.mono ha oM) (fun i=>LQ.mono (B i) oM) _ _ b.g b.f.2.1 b.f.1) ?_))));rintro _ _ _ b ⟨V,rfl,bb⟩;replace b:=b.aS bb;refine lP 0 0 (qZ (a*((-1:Int):Rat)) (sB V) (((hO m).map fun i=>ga.getD i 0*((-1:Int):Rat)).length) m) b (fun _ b=>lL b ac (lN (kX ?_)));obtain rfl:op=7:=by omega
 have C:co 7 n a 0=0:=(dz (fun d=>absurd d kD) (fun d=>absurd d kD) (fun d=>absurd d kD) (fun d=>absurd d kD));exact b.ret [(0,0,6)] (.tuple #[qY (a*((-1:Int):Rat)) (sB V) (((hO m).map fun i=>ga.getD i 0*((-1:Int):Rat)).length) m,iV 0]) (⟨a*((-1:Int):Rat),((hO m).map fun i=>ga.getD i 0*((-1:Int):Rat)),_,_,by rw[C],b.f.1,fun _=>Jb⟩)
theorem AN (p:Z9)(m l:Nat)(hm:m<=1000)(K D:Nat)(hK1:1<=K)(hKD:K<=60000)(hD:D<=10000000)(bm:Nat)(op n:Int)(q:Rat)(s:ByteArray)(A:Z9)(kn c:Nat)(a:Rat)(ga:List Rat)(j:Z9)(u:Nat)(H:ga.length=m)(ha:LQ K a)(I:∀ i,LQ D (ga.getD i 0))(b:Rat)(gb:List Rat)(x:Z9)(B:Nat)(F:gb.length=m)(hb:LQ K b)(C:∀ i,LQ D (gb.getD i 0))(hop:3<=op/\op<=6\/12<=op/\op<=13)(w:World)(h:Hp)(g:G w h)(hSa:Sq j ga h)(hSb:Sq x gb h)(tb:Tab h):CR 51 #[.agg #[.iface 75 (.agg #[.slice p m l]),.map (some bm),.bool false],ar ⟨op,n,q,s,A,kn,c⟩,qY a j ga.length u,qY b x gb.length B] w h (fun v h1=>∃ (q_:Rat)(G_:List Rat)(A_:Z9)(c_:Nat),v=.tuple #[oA q_ A_ G_.length c_,iV (co op n a b)]/\Sq A_ G_ h1/\(co op n a b=0->q_=gh op n 0 a b/\G_=jI m op n a b ga gb)):=by
 have d:=((((sS g).aS hSa).aS hSb).add (K:=fun e=>Tab e) tb);refine go Tryz.func51 [(0,.agg #[.iface 75 (.agg #[qS p m l]),.map (some bm),qF]),(1,ar ⟨op,n,q,s,A,kn,c⟩),(2,qY a j ga.length u),(3,qY b x gb.length B)] rfl (aD (lA 4 81 ([.iface 75 (.agg #[qS p m l]),.map (some bm),qF]) d (fun J w2 h3 d=>lA 5 32 (aI ⟨op,n,q,s,A,kn,c⟩) d (fun b4 w5 h6 d=>lA 6 51 (qZ a j ga.length u) d (fun b7 w8 h9 d=>lA 7 51 (qZ b x gb.length B) d (fun b10 _ _ d=>lA 8 51 ([qF,uV 0,eS,uV 0,eS,sZ]) d (fun b13 _ _ d=>lL d ac (af (aa d [.v (pB b4),.o (iV op) 3 0 1] (bh (aD ?_)))))))))));cases za:((op:Int) == (3:Int))
 .
  have zk:=ag za;refine lB 14 za (lL d ac (ah (aD ?_)));cases zb:((op:Int) == (4:Int))
  .
   have zl:=ag zb;refine lB 21 zb (lL d ac (ah (aD ?_)));cases zc:((op:Int) == (5:Int))
   .
    have zm:=ag zc;refine lB 32 zc (lL d ac (ah (aD ?_)));cases zd:((op:Int) == (6:Int))
    .
     have zn:=ag zd;refine lB 39 zd (lL d ac (ah (cK (cQ (cR 9 [] mixed d aq ?_)))));refine eV 0 57 (pB J) (eO 1 58 [(4,0,1)] (.iface 75 (.agg #[qS p m l])) d (eO 2 59 [(2,0,6)] (qY a j ga.length u) d (eV 4 61 (pB J) (eO 5 62 [(4,0,1)] (.iface 75 (.agg #[qS p m l])) d (eO 6 63 [(1,0,6)] (qY b x gb.length B) d (ai 3 60 d (fun _ _ d=>Hw p m l hm a j ga.length u _ _ d.g) (fun _ _ d=>ai 7 64 d (fun _ _ d=>Hw p m l hm b x gb.length B _ _ d.g) (fun _ _ d=>ai 8 65 d (fun _ _ d=>tJ a b (LQ.mono ha oM) (LQ.mono hb oM) _ _ d.g) (fun _ _ d=>bY d (fun _ _ d=>tV 9 10 (iV (dV a b)) (tN (cQ (aa d ac ?_)))))))))))));cases ze:((dV a b:Int) == (0:Int))
     .
      have zo:=ag ze;refine lB 67 ze (ah (cK (cQ (aa d ac ?_))));cases zf:(decide ((0:Int)<(dV a b:Int)))
      .
       have zp:=oF zf;refine lB 70 zf (lL d [.v (pB b4),.o (iV op) 3 0 1] ?_);cases zg:((op:Int) == (12:Int))
       .
        have zq:=ag zg;refine lB 73 zg (lL d [.v qT] (au (aa d [.o (qY a j ga.length u) 2 0 6] (lP 0 0 (qZ a j ga.length u) d (fun _ d=>lL d ac (lN (kX ?_)))))));have y:co op n a b=0:=(dz (fun e=>absurd e oM) (fun e=>absurd e oM) (fun e=>absurd e oM) (fun _=>fun V=>absurd (gi.2 V) oM));exact d.ret [(0,0,6)] (.tuple #[qY a j ga.length u,iV 0]) (⟨a,ga,_,_,by rw[y],d.f.r.1,fun _=>(Dm H (vQ oM))⟩)
       have zq:=eq_of_beq zg;refine lB 73 zg (lL d [.v qF] (ah (cK (aa d [.o (qY b x gb.length B) 1 0 6] (lP 0 0 (qZ b x gb.length B) d (fun _ d=>lL d ac (lN (kX ?_))))))));have y:co op n a b=0:=(dz (fun e=>absurd e oM) (fun e=>absurd e oM) (fun e=>absurd e oM) (fun _=>fun V=>absurd (gi.2 V) oM));exact d.ret [(0,0,6)] (.tuple #[qY b x gb.length B,iV 0]) (⟨b,gb,_,_,by rw[y],d.f.2.1,fun _=>(C0 F (xK oM))⟩)
      have zp:=oT zf;refine lB 70 zf (lL d [.v (pB b4),.o (iV op) 3 0 1] ?_);cases zi:((op:Int) == (12:Int))
      .
       have zr:=ag zi;refine lB 73 zi (lL d [.v qF] (ah (cK (aa d [.o (qY b x gb.length B) 1 0 6] (lP 0 0 (qZ b x gb.length B) d (fun _ d=>lL d ac (lN (kX ?_))))))));have y:co op n a b=0:=(dz (fun e=>absurd e oM) (fun e=>absurd e oM) (fun e=>absurd e oM) (fun _=>fun V=>absurd (gi.2 V) oM));exact d.ret [(0,0,6)] (.tuple #[qY b x gb.length B,iV 0]) (⟨b,gb,_,_,by rw[y],d.f.2.1,fun _=>(C0 F (xK oM))⟩)
      have zr:=eq_of_beq zi;refine lB 73 zi (lL d [.v qT] (au (aa d [.o (qY a j ga.length u) 2 0 6] (lP 0 0 (qZ a j ga.length u) d (fun _ d=>lL d ac (lN (kX ?_)))))));have y:co op n a b=0:=(dz (fun e=>absurd e oM) (fun e=>absurd e oM) (fun e=>absurd e oM) (fun _=>fun V=>absurd (gi.2 V) oM));exact d.ret [(0,0,6)] (.tuple #[qY a j ga.length u,iV 0]) (⟨a,ga,_,_,by rw[y],d.f.r.1,fun _=>(Dm H (vQ oM))⟩)
     have zo:=eq_of_beq ze;refine lB 67 ze (au (aa d [.o (qY a j ga.length u) 2 0 6] (lP 0 0 (qZ a j ga.length u) d (fun _ d=>lL d ac (lN (kX ?_))))));have y:co op n a b=7:=(Cy (.inr ⟨by omega,gi.1 oM⟩));exact d.ret [(0,0,6)] (.tuple #[qY a j ga.length u,iV 7]) (⟨a,ga,_,_,by rw[y],d.f.r.1,fun e=>absurd e (by rw[y];decide)⟩)
    have zn:=eq_of_beq zd;refine lB 39 zd (lL d ac (au (cQ (aa d [.v (pB J),.o (.iface 75 (.agg #[qS p m l])) 4 0 1,.o (qY b x gb.length B) 1 0 6] (am 43 d (Hw p m l hm b x gb.length B _ _ d.g) (fun _ _ d=>am 44 d (gM b (LQ.mono hb oM) _ _ d.g) (fun _ _ d=>?_)))))));have bf:=kl b.num;cases zj:((b.num.sign:Int) == (0:Int))
    .
     have zs:=ag zj;refine lB 45 zj (ah (cK (cQ (cR 10 [] mixed d aq ?_))));refine eV 0 47 (pB J) (eO 1 48 [(4,0,1)] (.iface 75 (.agg #[qS p m l])) d (eO 2 49 [(2,0,6)] (qY a j ga.length u) d (eV 3 50 (pB J) (eO 4 51 [(4,0,1)] (.iface 75 (.agg #[qS p m l])) d (eO 5 52 [(1,0,6)] (qY b x gb.length B) d (eV 7 54 (.iface 75 (.agg #[qS p m l])) (eV 8 55 (.iface 75 (.agg #[qS p m l])) (eC 6 53 d (fun _ _ d=>nU p m l hm (14*K+40) (D+40*K+100) oM oM oM b gb x B F (LQ.mono hb oM) (fun i=>LQ.mono (C i) oM) (sL (j7 oM)) _ _ d.g d.f.2.1 d.f.1) ?_))))))));rintro _ _ _ _ _ d ⟨bb,rfl,S⟩;replace d:=d.aS S;refine eC 9 56 d (fun _ _ d=>Cf p m l hm (14*K+40) (D+40*K+100) oM oM oM a ga j u H (LQ.mono ha oM) (fun i=>LQ.mono (I i) oM) (((1:Int):Rat)/b) ((hO m).map fun i=>gb.getD i 0*(-((((1:Int):Rat)/b)*(((1:Int):Rat)/b)))) (sB bb) m (fV _ _) (LQ.mono (LQ.div (LQ.int (z:=1) kD kD) hb) oM) (l9 (fun i=>LQ.mono ((C i).mul ((LQ.div (LQ.int (z:=1) kD kD) hb).mul (LQ.div (LQ.int (z:=1) kD kD) hb)).neg) oM) oM) _ _ d.g d.f.r.2.1 d.f.1 d.f.2.1) ?_;rintro _ _ _ _ _ d ⟨O,rfl,Y⟩;replace d:=d.aS Y;refine bY d (fun _ _ d=>tP 10 0 0 (qZ (a*(((1:Int):Rat)/b)) (sB O) (((hO m).map fun i=>ga.getD i 0*(((1:Int):Rat)/b)+a*((hO m).map fun i=>gb.getD i 0*(-((((1:Int):Rat)/b)*(((1:Int):Rat)/b)))).getD i 0).length) m) d (fun _ d=>tV 11 9 (iV 0) (tN (kX ?_))));obtain rfl:op=6:=by omega
     have y:co 6 n a b=0:=(dz (fun _=>j7 oM) (fun e=>absurd e kD) (fun e=>absurd e kD) (fun e=>absurd e kD));exact d.ret [(0,0,6)] (.tuple #[qY (a*(((1:Int):Rat)/b)) (sB O) (((hO m).map fun i=>ga.getD i 0*(((1:Int):Rat)/b)+a*((hO m).map fun i=>gb.getD i 0*(-((((1:Int):Rat)/b)*(((1:Int):Rat)/b)))).getD i 0).length) m,iV 0]) (⟨a*(((1:Int):Rat)/b),((hO m).map fun i=>ga.getD i 0*(((1:Int):Rat)/b)+a*((hO m).map fun i=>gb.getD i 0*(-((((1:Int):Rat)/b)*(((1:Int):Rat)/b)))).getD i 0),_,_,by rw[y],d.f.1,fun _=>(Jg (j7 oM))⟩)
    have zs:=eq_of_beq zj;refine lB 45 zj (au (aa d [.o (qY a j ga.length u) 2 0 6] (lP 0 0 (qZ a j ga.length u) d (fun _ d=>lL d ac (lN (kX ?_))))));obtain rfl:op=6:=by omega
    have y:co 6 n a b=6:=(CM (.inl ⟨rfl,Be oM⟩));exact d.ret [(0,0,6)] (.tuple #[qY a j ga.length u,iV 6]) (⟨a,ga,_,_,by rw[y],d.f.r.1,fun e=>absurd e (by rw[y];decide)⟩)
   have zm:=eq_of_beq zc;refine lB 32 zc (lL d ac (au (aa d [.v (pB J),.o (.iface 75 (.agg #[qS p m l])) 4 0 1,.o (qY a j ga.length u) 2 0 6,.o (qY b x gb.length B) 1 0 6] (lC 37 d (Cf p m l hm (14*K+40) (D+40*K+100) oM oM oM a ga j u H (LQ.mono ha oM) (fun i=>LQ.mono (I i) oM) b gb x B F (LQ.mono hb oM) (fun i=>LQ.mono (C i) oM) _ _ d.g d.f.r.1 d.f.2.1 d.f.1) ?_))));rintro _ _ _ d ⟨Q,rfl,W⟩;replace d:=d.aS W;refine lP 0 0 (qZ (a*b) (sB Q) (((hO m).map fun i=>ga.getD i 0*b+a*gb.getD i 0).length) m) d (fun _ d=>lL d ac (lN (kX ?_)));obtain rfl:op=5:=by omega
   have y:co 5 n a b=0:=(dz (fun e=>absurd e kD) (fun e=>absurd e kD) (fun e=>absurd e kD) (fun e=>absurd e kD));exact d.ret [(0,0,6)] (.tuple #[qY (a*b) (sB Q) (((hO m).map fun i=>ga.getD i 0*b+a*gb.getD i 0).length) m,iV 0]) (⟨a*b,((hO m).map fun i=>ga.getD i 0*b+a*gb.getD i 0),_,_,by rw[y],d.f.1,fun _=>⟨rfl,JB⟩⟩)
  have zl:=eq_of_beq zb;refine lB 21 zb (lL d ac (au (cQ (cR 9 [] mixed d aq ?_))));refine eV 0 22 (pB J) (eO 1 23 [(4,0,1)] (.iface 75 (.agg #[qS p m l])) d (eO 2 24 [(2,0,6)] (qY a j ga.length u) d (eO 3 25 [(4,0,3)] (.agg #[.iface 75 (.agg #[qS p m l]),.map (some bm),qF]) d (eO 4 26 [(1,0,6)] (qY b x gb.length B) d (eV 6 28 (.iface 75 (.agg #[qS p m l])) (eV 7 29 (.iface 75 (.agg #[qS p m l])) (eC 5 27 d (fun _ _ d=>nY p m l hm (14*K+40) (D+40*K+100) oM oM oM bm false b gb x B F (LQ.mono hb oM) (fun i=>LQ.mono (C i) oM) _ _ d.g d.f.2.1 d.f.1) ?_)))))));rintro _ _ _ _ _ d ⟨bd,rfl,Z⟩;replace d:=d.aS Z;refine eC 8 30 d (fun _ _ d=>Fi p m l hm (14*K+40) (D+40*K+100) oM oM oM a ga j u H (LQ.mono ha oM) (fun i=>LQ.mono (I i) oM) (b*((-1:Int):Rat)) ((hO m).map fun i=>gb.getD i 0*((-1:Int):Rat)) (sB bd) m (fV _ _) (LQ.mono (hb.mul (LQ.int (z:=-1) kD kD)) oM) (l9 (fun i=>((C i).mul (LQ.int (z:=-1) kD kD)).mono oM) oM) _ _ d.g d.f.r.2.1 d.f.1 d.f.2.1) ?_;rintro _ _ _ _ _ d ⟨M,rfl,X⟩;replace d:=d.aS X;refine bY d (fun _ _ d=>tP 9 0 0 (qZ (a+(b*((-1:Int):Rat))) (sB M) (((hO m).map fun i=>ga.getD i 0+((hO m).map fun i=>gb.getD i 0*((-1:Int):Rat)).getD i 0).length) m) d (fun _ d=>tV 10 9 (iV 0) (tN (kX ?_))));obtain rfl:op=4:=by omega
  have y:co 4 n a b=0:=(dz (fun e=>absurd e kD) (fun e=>absurd e kD) (fun e=>absurd e kD) (fun e=>absurd e kD));exact d.ret [(0,0,6)] (.tuple #[qY (a+(b*((-1:Int):Rat))) (sB M) (((hO m).map fun i=>ga.getD i 0+((hO m).map fun i=>gb.getD i 0*((-1:Int):Rat)).getD i 0).length) m,iV 0]) (⟨a+(b*((-1:Int):Rat)),((hO m).map fun i=>ga.getD i 0+((hO m).map fun i=>gb.getD i 0*((-1:Int):Rat)).getD i 0),_,_,by rw[y],d.f.1,fun _=>Jv⟩)
 have zk:=eq_of_beq za;refine lB 14 za (lL d ac (au (aa d [.v (pB J),.o (.iface 75 (.agg #[qS p m l])) 4 0 1,.o (qY a j ga.length u) 2 0 6,.o (qY b x gb.length B) 1 0 6] (lC 19 d (Fi p m l hm (14*K+40) (D+40*K+100) oM oM oM a ga j u H (LQ.mono ha oM) (fun i=>LQ.mono (I i) oM) b gb x B F (LQ.mono hb oM) (fun i=>LQ.mono (C i) oM) _ _ d.g d.f.r.1 d.f.2.1 d.f.1) ?_))));rintro _ _ _ d ⟨L,rfl,U⟩;replace d:=d.aS U;refine lP 0 0 (qZ (a+b) (sB L) (((hO m).map fun i=>ga.getD i 0+gb.getD i 0).length) m) d (fun _ d=>lL d ac (lN (kX ?_)));obtain rfl:op=3:=by omega
 have y:co 3 n a b=0:=(dz (fun e=>absurd e kD) (fun e=>absurd e kD) (fun e=>absurd e kD) (fun e=>absurd e kD));exact d.ret [(0,0,6)] (.tuple #[qY (a+b) (sB L) (((hO m).map fun i=>ga.getD i 0+gb.getD i 0).length) m,iV 0]) (⟨a+b,((hO m).map fun i=>ga.getD i 0+gb.getD i 0),_,_,by rw[y],d.f.1,fun _=>⟨rfl,Jj⟩⟩)
theorem Ep (ok:ByteArray->Prop)(ix:ByteArray->Nat)(fs:List Rat)(b:Z9)(i:Nat)(hm:fs.length<=1000)(e:Nat)(p:List MapEntry)(d:Nat)(n:Int)(q:Rat)(s:ByteArray)(A:Z9)(c:Nat)(ps:List PTm)(ks:List Tm)(w:World)(h:Hp)(g:G w h)(D:SlO 9 aI aE h A ps)(B:Sq b fs h)(hM:MapS h e p):CR 21 #[.agg #[.iface 75 (.agg #[.slice b fs.length i]),.map (some e),.bool false],ar ⟨1,n,q,s,A,ps.length,c⟩] w h (fun v h1=>∃ (x:Z9)(c_:Nat),v=.tuple #[oA (bB ix fs (d+1) (.mk 1 n q s ks)).2.1 x (bB ix fs (d+1) (.mk 1 n q s ks)).2.2.length c_,iV (bB ix fs (d+1) (.mk 1 n q s ks)).1]/\Sq x (bB ix fs (d+1) (.mk 1 n q s ks)).2.2 h1):=by
 have a:=((((sS g).aS D).aS B).add (K:=fun y=>MapS y e p) hM);refine go Tryz.func21 [(0,.agg #[.iface 75 (.agg #[qS b fs.length i]),.map (some e),qF]),(1,ar ⟨1,n,q,s,A,ps.length,c⟩)] rfl (aD (lA 2 81 ([.iface 75 (.agg #[qS b fs.length i]),.map (some e),qF]) a (fun z w2 I a=>lA 3 32 (aI ⟨1,n,q,s,A,ps.length,c⟩) a (fun u H M a=>lA 4 51 ([qF,uV 0,eS,uV 0,eS,sZ]) a (fun J F L a=>lL a ac (aR (lA 6 51 ([qF,uV 0,eS,uV 0,eS,sZ]) a (fun C _ _ a=>af (aa a [.v (pB u),.o (iV 1) 2 0 1] (bh (aa a [.v qT,.c] (au (aa a [.v (pB z),.o (.iface 75 (.agg #[qS b fs.length i])) 3 0 1,.v (qP u 2),.o (qv q) 2 2 5] (lC 19 a (jv b fs.length i hm q _ _ a.g) ?_))))))))))))));rintro _ _ _ a ⟨l,rfl,j⟩;replace a:=a.aS j;exact lP 1 0 (qZ q (sB l) ((yp fs.length (0:Rat)).length) fs.length) a (fun _ a=>lL a ac (ae a [(1,0,6)] (.tuple #[qY q (sB l) ((yp fs.length (0:Rat)).length) fs.length,iV 0]) (⟨_,_,rfl,a.f.1⟩)))
theorem Fq (ok:ByteArray->Prop)(ix:ByteArray->Nat)(fs:List Rat)(e:Z9)(j:Nat)(hm:fs.length<=1000)(b:Nat)(p:List MapEntry)(d:Nat)(n:Int)(q:Rat)(s:ByteArray)(A:Z9)(c:Nat)(ps:List PTm)(ks:List Tm)(l:ix s<fs.length)(u:∃ i,Instr.findNow .string (.string s) p 0=some (some (i,nV (ix s))))(w:World)(h:Hp)(g:G w h)(L:SlO 9 aI aE h A ps)(F:Sq e fs h)(hM:MapS h b p):CR 21 #[.agg #[.iface 75 (.agg #[.slice e fs.length j]),.map (some b),.bool false],ar ⟨2,n,q,s,A,ps.length,c⟩] w h (fun v h1=>∃ (C:Z9)(c_:Nat),v=.tuple #[oA (bB ix fs (d+1) (.mk 2 n q s ks)).2.1 C (bB ix fs (d+1) (.mk 2 n q s ks)).2.2.length c_,iV (bB ix fs (d+1) (.mk 2 n q s ks)).1]/\Sq C (bB ix fs (d+1) (.mk 2 n q s ks)).2.2 h1):=by
 have a:=((((sS g).aS L).aS F).add (K:=fun D=>MapS D b p) hM);refine go Tryz.func21 [(0,.agg #[.iface 75 (.agg #[qS e fs.length j]),.map (some b),qF]),(1,ar ⟨2,n,q,s,A,ps.length,c⟩)] rfl (aD (lA 2 81 ([.iface 75 (.agg #[qS e fs.length j]),.map (some b),qF]) a (fun z w2 Q a=>lA 3 32 (aI ⟨2,n,q,s,A,ps.length,c⟩) a (fun B O V a=>lA 4 51 ([qF,uV 0,eS,uV 0,eS,sZ]) a (fun S M U a=>lL a ac (aR (lA 6 51 ([qF,uV 0,eS,uV 0,eS,sZ]) a (fun I _ _ a=>af (aa a [.v (pB B),.o (iV 2) 2 0 1] (bh (aa a [.v qF,.c] (ah (aa a [.v qT,.c] (au (aa a [.v (pB z),.o (.iface 75 (.agg #[qS e fs.length j])) 3 0 1,.v (qP z 1),.o (.map (some b)) 3 1 1,.v (qP B 7),.o (.string s) 2 7 1] (Gj 28 76 9 3 (s) false (nV (ix s)) (true) a a.f.1 ?_ (hf:=(by obtain ⟨J,H⟩:=u;exact .inl ⟨J,H,rfl⟩))))))))))))))))));refine lC 29 a (E0 e fs.length j hm fs rfl (ix s) l _ _ a.g a.f.2.1) ?_;rintro _ _ _ a ⟨y,rfl,x⟩;replace a:=a.aS x;exact lP 1 0 (qZ (fs.getD (ix s) 0) (sB y) ((d6 fs.length (ix s)).length) fs.length) a (fun _ a=>lL a ac (ae a [(1,0,6)] (.tuple #[qY (fs.getD (ix s) 0) (sB y) ((d6 fs.length (ix s)).length) fs.length,iV 0]) (⟨_,_,rfl,a.f.1⟩)))
theorem Dv  (ok:ByteArray->Prop)(ix:ByteArray->Nat)(fs:List Rat)(j:Z9)(l:Nat)(hm:fs.length<=1000)(e:Nat)(M:List MapEntry)(d:Nat)(ih:∀ (p:PTm) (t:Tm) (w:World) (h:Hp),G w h->TmH d h p t->WfT1 ok d t->ba d t<=1000->Sq j fs h->MapS h e M->Tab h->Calls Tryz.prog 21 #[.agg #[.iface 75 (.agg #[.slice j fs.length l]),.map (some e),.bool false],ar p] w (Ret w h (fun v h1=>∃ (H:Z9)(c_:Nat),v=.tuple #[oA (bB ix fs d t).2.1 H (bB ix fs d t).2.2.length c_,iV (bB ix fs d t).1]/\Sq H (bB ix fs d t).2.2 h1)))(op n:Int)(q:Rat)(s:ByteArray)(A:Z9)(c:Nat)(u:PTm)(b:Tm)(z:WfT1 ok d b)(V:ba d b<=1000)(L:LQ 3000 (bB ix fs d b).2.1)(Q:∀ i,LQ 1000000 ((bB ix fs d b).2.2.getD i 0))(hop:3<=op/\op<=13)(har:dU op=1)(hn : -12<=n/\n<=12)(w:World)(h:Hp)(g:G w h)(hK:SlO 9 aI aE h A ([u]:List PTm))(Y:TmH d h u b)(hF:Sq j fs h)(hM:MapS h e M)(tb:Tab h):CR 21 #[.agg #[.iface 75 (.agg #[.slice j fs.length l]),.map (some e),.bool false],ar ⟨op,n,q,s,A,1,c⟩] w h (fun v h1=>∃ (H:Z9)(c_:Nat),v=.tuple #[oA (bB ix fs (d+1) (.mk op n q s ([b]:List Tm))).2.1 H (bB ix fs (d+1) (.mk op n q s ([b]:List Tm))).2.2.length c_,iV (bB ix fs (d+1) (.mk op n q s ([b]:List Tm))).1]/\Sq H (bB ix fs (d+1) (.mk op n q s ([b]:List Tm))).2.2 h1):=by
 have a:=((((((sS g).aS hK).add (K:=fun y=>TmH d y u b) Y).aS hF).add (K:=fun y=>MapS y e M) hM).add (K:=fun y=>Tab y) tb);have hln:([u]:List PTm).length=1:=rfl;have hac:=az op;refine go Tryz.func21 [(0,.agg #[.iface 75 (.agg #[qS j fs.length l]),.map (some e),qF]),(1,ar ⟨op,n,q,s,A,1,c⟩)] rfl (aD (lA 2 81 ([.iface 75 (.agg #[qS j fs.length l]),.map (some e),qF]) a (fun b1 w2 h3 a=>lA 3 32 (aI ⟨op,n,q,s,A,1,c⟩) a (fun U w5 h6 a=>lA 4 51 ([qF,uV 0,eS,uV 0,eS,sZ]) a (fun b7 w8 h9 a=>lL a ac (aR (lA 6 51 ([qF,uV 0,eS,uV 0,eS,sZ]) a (fun b10 _ _ a=>af (aa a [.v (pB U),.o (iV op) 2 0 1] (bh (aD ?_)))))))))));have zc:((op:Int) == (1:Int))=false:=cD oM;have Z:=ag zc;refine lB 14 zc (lL a ac (ah (aD ?_)));have zd:((op:Int) == (2:Int))=false:=cD oM;have O:=ag zd;refine lB 21 zd (lL a ac (ah (cK (cQ ?_))));have hsr:=a;refine cR 10 [⟨9,7,.cells (J8 [qF,uV 0,eS,uV 0,eS,sZ]) 51 (0,0)⟩] mixed a (bv (dM kR (fun _ _=>by kernel_rfl)) aq) (eO 0 31 [(3,0,3)] (.agg #[.iface 75 (.agg #[qS j fs.length l]),.map (some e),qF]) a (eV 1 32 (qP U 8) (eO 2 33 [(2,8,1)] (qS A 1 c) a (eX 3 34 A 1 c 9 0 0 ((a.f.q.1).ok oM) (eH 4 35 (ar (([u]:List PTm).getD 0 aE)) a ((a.f.q.1).el 0 oM) (eC 5 36 a (fun _ _ a=>ih (([u]:List PTm).getD 0 aE) b _ _ a.g a.f.r.2.1 z V a.f.r.1 a.f.2.1 a.f.1) ?_))))));rintro _ _ _ _ _ a ⟨F,c1,rfl,W⟩;replace a:=a.aS W;refine eV 6 30 (.tuple #[qY ((bB ix fs d b).2.1) F (((bB ix fs d b).2.2).length) c1,iV ((bB ix fs d b).1)]) (eV 7 37 (qY ((bB ix fs d b).2.1) F (((bB ix fs d b).2.2).length) c1) (eV 8 38 (iV ((bB ix fs d b).1)) (eP [] hsr a 51 [qF,uV 0,eS,uV 0,eS,sZ] (fun _ _ zg a=>tP 10 0 0 (qZ ((bB ix fs d b).2.1) F (((bB ix fs d b).2.2).length) c1) a (fun _ a=>tV 11 8 (iV ((bB ix fs d b).1)) (tN (cQ (aa a ac ?_))))))));cases I:(((bB ix fs d b).1:Int) != (0:Int))
 .
  have ze:=aY I;refine lB 40 I (ah (cK (cQ (aa a [.v (qP U 8),.o (qS A 1 c) 3 8 1,.v (iV 1),.v qT] (au (kQ (lL a [.o (.agg #[.iface 75 (.agg #[qS j fs.length l]),.map (some e),qF]) 4 0 3,.o (ar ⟨op,n,q,s,A,1,c⟩) 3 0 9,.o (qY ((bB ix fs d b).2.1) F (((bB ix fs d b).2.2).length) c1) 0 0 6] (lC 51 a (Cw j fs.length l hm 3000 1000000 kD kD kD e op n q s A 1 c (bB ix fs d b).2.1 (bB ix fs d b).2.2 F c1 (jD z oM) L Q oM (fun _=>hn) _ _ a.g a.f.1 a.f.2.1) ?_))))))));rintro _ _ _ a ⟨D,Gr,B,C,rfl,S,X⟩;replace a:=a.aS S;refine lL a [.c,.v (qY D B Gr.length C),.v (iV (co op n (bB ix fs d b).2.1 0))] (lP 0 0 (qZ D B Gr.length C) a (fun _ a=>lL a ac (af (aa a ac ?_))));cases J:(((co op n (bB ix fs d b).2.1 0):Int) != (0:Int))
  .
   have zf:=aY J;exact lB 76 J (ah (cK (aa a [.o (qY D B Gr.length C) 0 0 6] (lP 2 0 (qZ D B Gr.length C) a (fun _ a=>lL a ac (ae a [(2,0,6)] (.tuple #[qY D B Gr.length C,iV 0]) (by obtain ⟨e1_,x⟩:=X oM;rw[mZ oM oM,mH oM rfl oM,e1_,x];exact ⟨_,_,rfl,by rw[<-x];exact a.f.1⟩)))))))
  have zf:=a6 J;refine lB 76 J (au (aa a [.o (.agg #[qF,uV 0,eS,uV 0,eS,sZ]) 1 0 6,.c] (lP 2 0 ([qF,uV 0,eS,uV 0,eS,sZ]) a (fun _ a=>lL a ac (lN (cj [(4,pB b7),(5,iV (co op n (bB ix fs d b).2.1 0)),(7,pB zg)] ?_))))));exact kX (a.ret [(2,0,6)] (.tuple #[.agg #[qF,uV 0,eS,uV 0,eS,sZ],iV (co op n (bB ix fs d b).2.1 0)]) (by rw[mZ oM oM,mS oM rfl oM];exact ⟨none,0,rfl,SlO.nil⟩))
 have ze:=a6 I;exact lB 40 I (au (aa a [.o (.agg #[qF,uV 0,eS,uV 0,eS,sZ]) 1 0 6,.c] (lP 2 0 ([qF,uV 0,eS,uV 0,eS,sZ]) a (fun _ a=>lL a ac (ae a [(2,0,6)] (.tuple #[.agg #[qF,uV 0,eS,uV 0,eS,sZ],iV ((bB ix fs d b).1)]) (by rw[mZ oM oM,mJ oM];exact ⟨none,0,rfl,SlO.nil⟩))))))
end Go.Proofs.YtpnchlalmgmkeaaGreatDoor
