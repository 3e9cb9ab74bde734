/- Laws of this claim, part 4. -/
import Derived.Test.YteipbelehcpooaaGreatDoorQl0
import Derived.Test.YteipbelehcpooaaGreatDoorQl1
import Derived.Test.YteipbelehcpooaaGreatDoorQl2
set_option maxRecDepth 100000
set_option maxHeartbeats 4000000
namespace Go.Proofs.YteipbelehcpooaaGreatDoor
open _root_.Array renaming getElem?_push_size -> gp, getElem?_setIfInBounds_ne -> oi, getElem?_setIfInBounds_self_of_lt -> zF
open Bool renaming noConfusion -> Lf
open Int renaming emod_lt_of_pos -> K1, emod_nonneg -> K0, lt_or_le -> K2, lt_trichotomy -> KE, mul_le_mul -> K4, sign_eq_neg_one_of_neg -> Kl, sign_eq_one_of_pos -> Km, sign_eq_zero_iff_zero -> K5, tmod_eq_emod_of_nonneg -> K3
open List renaming drop_eq_nil_of_le -> yT, getD_eq_getElem?_getD -> A4, getElem?_eq_none -> x4, getElem?_set_ne -> yx, getElem?_set_self -> yw, getElem_mem -> gx, length_append -> yR, length_map -> K7, length_range -> Le, length_set -> JJ, length_singleton -> K8, mem_cons -> hP, mem_cons_of_mem -> Kg, mem_cons_self -> Kf, mem_singleton -> vl, range -> po, replicate -> y2, set_eq_of_length_le -> La, take_add_one -> F2, toArray -> Ky
open Nat renaming add_mul -> JG, gcd -> Kq, le_add_right -> Lc, le_mul_of_pos_left -> Kv, le_refl -> ey, le_trans -> e6, lt_irrefl -> KZ, lt_of_le_of_lt -> A9, lt_trichotomy -> Lb, min_eq_right -> JO, mul_le_mul_left -> Jx, mul_le_mul_right -> yX, not_lt_zero -> K6, zero_le -> JU
open Option renaming mem_toList -> K9
open Rat renaming num_eq_zero -> KY
open Go.RowKit
open Go.RowKit Go.Shelf
theorem u5 {n m:Nat}(h:n<256^m):∀ j,j<(m+3)/4->(y2 ((m+3)/4) 0).getD j 0=fC n (m-0) j:=fun j a=>by
 rw[Nat.sub_zero,v8 h];simp[a]
theorem uN {l:List Nat}{n m i x:Nat}(hi:i<m)(c:l.length=(m+3)/4)(hv:∀ j,j<(m+3)/4->l.getD j 0=fC n (m-i) j)(b:x=fC n (m-1-i) ((m-1-i)/4)) :
  ∀ j,j<(m+3)/4->(l.set ((m-1-i)/4) x).getD j 0=fC n (m-(i+1)) j:=by
 intro j a;rw[show m-(i+1)=m-1-i by omega]
 by_cases e:j=(m-1-i)/4
 ·subst e
  have:(m-1-i)/4<l.length:=by omega
  simp[this,b]
 ·rw[nU,if_neg e,show m-1-i+1=m-i by omega,<-hv j a]
  simp only[A4]
  rw[yx (Ne.symm e)]
theorem te {n k:Nat}:fC n (k+1) (k/4) ||| (n/256^k%256)*2^(8*(k%4))=fC n k (k/4):=by rw[nU n k (k/4),if_pos rfl]
theorem nP {b k:Nat}(a:b<256):b*2^(8*(k%4))<4294967296:=by
 have:k%4=0\/k%4=1\/k%4=2\/k%4=3:=by omega
 rcases this with e|e|e|e<;>rw[e]<;>omega
theorem wP {l:List Nat}{n m:Nat}(b:n<256^m)(c:l.length=(m+3)/4)(hv:∀ j,j<(m+3)/4->l.getD j 0=fC n (m-m) j):aq 4294967296 l=n/\Ld l:=by
 constructor
 ·rw[<-kg]
  refine iB l n (fun j a=>by rw[hv j oM,Nat.sub_self,uE]) ?_;refine Nat.lt_of_lt_of_le b ?_;rw[c,show (256:Nat)=2^8 by rfl,show (4294967296:Nat)=2^32 by rfl,<-Nat.pow_mul,<-Nat.pow_mul];exact Nat.pow_le_pow_right oM oM
 ·intro x d
  obtain ⟨j,a,rfl⟩:=List.mem_iff_getElem.1 d;have:=hv j oM;have e:l[j]=l.getD j 0:=by simp[a]
  rw[e,this];exact oV _ _ _
theorem xD (n m:Nat)(A:Z9)(p:Nat)(hc:m<=p)(hm:m<=1099511627776)(V:n<256^m)(w:World)(h:Hp)(g:G w h)(hA:SlO 1 nw 0 h A (fT n m)):CR 190 #[.slice A m p] w h (fun v h1=>RN h1 v n):=by
 have e:=((sS g).aS hA);have Z:=jz n m;refine go Tryz.func190 [(0,qS A m p)] rfl (ab e ae (a7 (lL e [.c,.v (nV m)] (bM 8 ((m:Nat)+3) (m+3) ?_))));refine lV 9 (nV ((m+3)/4)) ?_ (hr:=ba (dZ (t:=3) (u:=3) (x:=.tmp 8) (y:=.const (iV 4)) (k:=.i64) (a:=((m+3:Nat):Int)) (b:=(4:Int)) kR kR kR oM _) (dV (m+3) 4 oM));refine lK 10 170 ((m+3)/4) 1 4 (uW 0) gh 0 e (fun C w2 h3 e=>?_);have K:(y2 ((m+3)/4) 0).length=((m+3)/4):=by simp
 refine lL e ae (ag (ab e ae (be ?_)));refine bU _ (CG.loop (fun O Γ X=>∃ (i:Nat)(l:List Nat)(S:Hp),O=m-i/\Γ=[(0,qS A m p),(2,sZ),(3,qS (sB C) ((m+3)/4) ((m+3)/4)),(4,nV i)]/\SS w h X S [⟨C,170,(l).flatMap gh⟩] [] [fun S=>SlO 1 nw 0 S A (fT n m)]/\i<=m/\l.length=(m+3)/4/\(∀ j,j<(m+3)/4->l.getD j 0=fC n (m-i) j)) _ ⟨0,y2 ((m+3)/4) 0,h3,rfl,rfl,e.to _ _,JU _,K,(u5 V)⟩ ?_);rintro _ _ w5 ⟨i,l,h6,Y,rfl,e,hi,B,hv⟩;refine cQ (ab e [.c,.c,.v (nV m)] ?_);cases D:(decide ((i:Int)<(m:Int)))
 .
  have J:=oF D;refine lB 14 D (ai (CG.exit ?_))
  show CG _ _ _ _ _ _ _ _
  refine ab e ae ?_;have Q:i=m:=by omega
  rw[Q] at hv
  obtain ⟨M,L⟩:=wP V B hv;obtain ⟨h9,e,F,U,W⟩:=e.pub 0;replace e:=(e.to [] []).aS (SlO.of_flat (sz:=1) (f:=gh) (d:=0) (b:=C) (o:=0) (l:=l) (fun _=>rfl) F);exact ak 43 e (wj (sB C) ((m+3)/4) l ((m+3)/4) B oM oM _ _ e.g e.f.1) (fun _ _ e=>lL e ae (af e [] (qS (sB C) (tl l ((m+3)/4)) ((m+3)/4)) (RN.trim L M B oM e.f.1)))
 have J:=oT D;refine lB 14 D (au (cK (cQ (kZ (ab e [.c,.v (nV m)] (bM 19 ((m:Nat)-1) (m-1) ?_))))));refine lL e ae (bM 21 ((m-1:Nat)-(i:Nat)) ((m-1)-i) ?_);refine lL e ae (lN (cR 19 [] mixed e ao ?_));refine eV 0 22 (qS (sB C) ((m+3)/4) ((m+3)/4)) (eV 1 23 (nV ((m-1)-i)) (eV 2 24 (nV (((m-1)-i)/4)) ?_ (hv:=fun _=>ba (dZ (t:=3) (u:=3) (x:=.tmp 23) (y:=.const (iV 4)) (k:=.i64) (a:=(((m-1)-i:Nat):Int)) (b:=(4:Int)) kR kR kR oM _) (dV ((m-1)-i) 4 oM))));refine eV 3 25 (qS (sB C) ((m+3)/4) ((m+3)/4)) (eV 4 26 (nV ((m-1)-i)) (eV 5 27 (nV (((m-1)-i)/4)) ?_ (hv:=fun _=>ba (dZ (t:=3) (u:=3) (x:=.tmp 26) (y:=.const (iV 4)) (k:=.i64) (a:=(((m-1)-i:Nat):Int)) (b:=(4:Int)) kR kR kR oM _) (dV ((m-1)-i) 4 oM))));refine eX 6 28 (sB C) ((m+3)/4) ((m+3)/4) 1 (((m-1)-i)/4:Nat) (((m-1)-i)/4:Nat) rfl (eQ 7 29 0 l gh 1 0 (((m-1)-i)/4:Nat) (mW ((l).getD (((m-1)-i)/4:Nat) 0)) e oM (eV 8 30 (qS A m p) (eV 9 31 (nV i) (eX 10 32 A m p 1 (i:Nat) i ((e.f.1).ok oM) ?_))));have z:=hv ((m-1-i)/4) oM;have H:l.getD ((m-1-i)/4) 0 ||| (n/256^(m-1-i)%256)*2^(8*((m-1-i)%4))=fC n (m-1-i) ((m-1-i)/4):=by rw[z,show m-i=m-1-i+1 by omega];exact te
 have I:l.getD ((m-1-i)/4) 0<4294967296:=by rw[z];exact oV _ _ _
 have z:=hv ((m-1-i)/4) oM;have H:l.getD ((m-1-i)/4) 0 ||| (n/256^(m-1-i)%256)*2^(8*((m-1-i)%4))=fC n (m-1-i) ((m-1-i)/4):=by rw[z,show m-i=m-1-i+1 by omega];exact te
 have I:l.getD ((m-1-i)/4) 0<4294967296:=by rw[z];exact oV _ _ _
 refine I9 11 33 (.int .u8 ((fT n m).getD i 0:Nat)) e ((e.f.1).el i oM) (by rw[i5 n m _ oM]) (eV 12 34 (mW (n/256^(m-1-i)%256)) ?_ (hv:=fun _=>rT (((n/256^(m-1-i)%256:Nat):Int)) kR (s7 oM oM)));refine eV 13 35 (nV ((m-1)-i)) (eV 14 36 (nV (((m-1)-i)%4)) ?_ (hv:=fun _=>ba (gn (t:=3) (u:=3) (x:=.tmp 35) (y:=.const (iV 4)) (k:=.i64) (a:=(((m-1)-i:Nat):Int)) (b:=(4:Int)) kR kR kR oM _) (dY ((m-1)-i) 4)));refine nu 15 37 (8*(((m-1)-i)%4:Nat)) (8*(((m-1)-i)%4:Nat)) (eV 16 38 (mV (8*(((m-1)-i)%4:Nat))) ?_ (hv:=fun _=>rU (((8*(((m-1)-i)%4:Nat):Nat):Int)) kR (bX oM oM)));refine eV 17 39 (mW ((n/256^(m-1-i)%256)*2^(8*((m-1-i)%4)))) ?_ (hv:=fun _=>Ai (t:=170) (u:=171) (x:=.tmp 34) (y:=.tmp 38) (ky:=.u64) (a:=n/256^(m-1-i)%256) (n:=8*((m-1-i)%4)) kR kR kR oM (nP oM) _);refine eV 18 40 (mW (fC n (m-1-i) ((m-1-i)/4))) ?_ (hv:=fun _=>ba (Eh (t:=170) (u:=170) (x:=.tmp 29) (y:=.tmp 39) (a:=l.getD ((m-1-i)/4) 0) (b:=(n/256^(m-1-i)%256)*2^(8*((m-1-i)%4))) kR kR kR I (nP oM) _) (congrArg Int.ofNat H));refine ce e (fun _ zb e=>tX 19 41 (sB C) ((m+3)/4) ((m+3)/4) 1 (((m-1)-i)/4:Nat) (((m-1)-i)/4:Nat) rfl (tW 20 0 l gh 1 (((m-1)-i)/4:Nat) (fC n (m-1-i) ((m-1-i)/4):Nat) e oM (fun _ e=>?_)));have za:((l).set (((m-1)-i)/4:Nat) (fC n (m-1-i) ((m-1-i)/4):Nat)).length=((m+3)/4):=by rw[JJ];exact B
 replace e:=e.to [⟨C,170,((l).set (((m-1)-i)/4:Nat) (fC n (m-1-i) ((m-1-i)/4):Nat)).flatMap gh⟩] [];refine tN (kQ (lL e ae (bM 16 ((i:Nat)+1) (i+1) ?_)));refine lL e ae (lD ?_);intro a_ ka;refine ⟨_,_,?_,⟨i+1,(l).set (((m-1)-i)/4:Nat) (fC n (m-1-i) ((m-1-i)/4):Nat),zb,rfl,rfl,e.to _ _,oM,za,(uN oM B hv rfl)⟩,ka.to _ kR⟩
 omega
def bQ (q:Rat):Rat:=if q.num<0 then -q else q
theorem mt (q:Rat):(bQ q).num=((ac q.num:Nat):Int):=by
 unfold bQ ac;split
 ·rw[Rat.neg_num];omega
 ·omega
theorem rt (q:Rat):(bQ q).den=q.den:=by
 unfold bQ;split
 ·rw[Rat.neg_den]
 ·rfl
theorem LQ.ln {q:Rat}(h:LQ 100000000 q):(lim (ac q.num)).length<=300000000:=e6 (ua _) (by have:=h.1;omega)
theorem LQ.ld {q:Rat}(h:LQ 100000000 q):(lim q.den).length<=300000000:=e6 (ua _) (by have:=h.2;omega)
theorem nl {k:Nat}{q:Rat}(h:LQ k q)(hk:k<=100000000:=by omega):(lim (ac q.num)).length<=300000000:=LQ.ln (h.mono hk)
theorem nD {k:Nat}{q:Rat}(h:LQ k q)(hk:k<=100000000:=by omega):(lim q.den).length<=300000000:=LQ.ld (h.mono hk)
theorem LQ.abs {k:Nat}{q:Rat}(h:LQ k q):LQ k (bQ q):=⟨by rw[mt];exact h.1,by rw[rt];exact h.2⟩
theorem LQ.sub {k l:Nat}{a b:Rat}(d:LQ k a)(c:LQ l b):LQ (k+l+1) (a-b):=by rw[Rat.sub_eq_add_neg];exact d.add c.neg
theorem LQ.inv {k:Nat}{q:Rat}(h:LQ k q):LQ k q⁻¹:=by
 by_cases hz:q.num=0
 ·have:q=0:=by rw[<-KY];exact hz
  subst this;rw[Rat.inv_zero];exact h
 ·obtain ⟨h1,a⟩:=ux q hz
  exact ⟨by rw[h1,fh];exact h.2,by rw[a];exact h.1⟩
theorem LQ.div {k l:Nat}{a b:Rat}(d:LQ k a)(c:LQ l b):LQ (k+l) (a/b):=by rw[Rat.div_def];exact d.mul c.inv
theorem LQ.int {z:Int}(h0 : -9223372036854775808<=z)(h1:z<=9223372036854775807):LQ 1 (z:Rat):=⟨by rw[Rat.num_intCast];exact ej.2 (by unfold ac;omega),by rw[Rat.den_intCast];exact ej.2 oM⟩
theorem LQ.lit {z:Int}(h : -9223372036854775808<=z/\z<=9223372036854775807):LQ 1 (z:Rat):=LQ.int h.1 h.2
def d9 (a b:List Rat):Nat->Rat
  | 0=>0
  | k+1=>d9 a b k+a.getD k 0*b.getD k 0
theorem ml (a:Nat)(A:Z9)(c:Nat)(l:(lim a).length<=c)(b:Nat)(D:Z9)(d:Nat)(hd:(lim b).length<=d)(e:(lim a).length<=3000000000)(p:(lim b).length<=1)(o:0<b)(w:World)(h:Hp)(g:G w h)(j:S3 A (lim a) h)(f:S3 D (lim b) h):CR 136 #[.slice A (lim a).length c,.slice D (lim b).length d] w h (fun v h1=>∃ i k,v=.tuple #[i,k]/\RN h1 i (a/b)/\RN h1 k (a%b)):=by
 have u:=d6.2 o
 rcases Nat.lt_or_ge a b with h1|h1
 ·exact vu a A c l b D d hd e oM h1 w h g j f
 ·exact sd a A c l b D d hd e oM h1 oM w h g j f
theorem vB (a:Nat)(A:Z9)(c:Nat)(hc:(lim a).length<=c)(b:Nat)(D:Z9)(d:Nat)(hd:(lim b).length<=d)(I:(lim a).length<=3000000000)(F:(lim b).length<=1)(w:World)(h:Hp)(g:G w h)(X:S3 A (lim a) h)(Q:S3 D (lim b) h):CR 135 #[.slice A ((lim a).length) c,.slice D ((lim b).length) d] w h (fun v h1=>RN h1 v (Kq a b)):=by
 have e:=(((sS g).aS X).aS Q);refine go Tryz.func135 [(0,qS A ((lim a).length) c),(1,qS D ((lim b).length) d)] rfl (ab e ae (ag (kZ ?_)));replace e:=e.aS e.f.1;replace e:=e.aS e.f.r.1;refine bU _ (CG.loop (fun H Γ O=>∃ (x:Nat)(k:Z9)(j:Nat)(y:Nat)(u:Z9)(z:Nat)(J:Hp),H=y/\Γ=[(4,sZ),(0,qS k ((lim x).length) j),(1,qS u ((lim y).length) z)]/\SS w h O J [] [] [S3 k (lim x),S3 u (lim y),S3 D (lim b),S3 A (lim a)]/\(lim x).length<=j/\(lim y).length<=z/\(lim x).length<=3000000000/\(lim y).length<=1/\Kq x y=Kq a b) _ ⟨a,A,c,b,D,d,h,rfl,rfl,e.to _ _,hc,hd,I,F,rfl⟩ ?_);rintro _ _ w1 ⟨x,k,j,y,u,z,h2,S,rfl,e,o,p,V,hl2,hG⟩;refine cQ (ab e [.c,.v (nV ((lim y).length))] ?_);cases i:(decide ((0:Int)<(((lim y).length:Nat):Int)))
 .
  have l:=oF i;refine lB 9 i (ai (CG.exit ?_))
  show CG _ _ _ _ _ _ _ _
  refine ab e aN (lN (kX ?_));have C:y=0:=Nat.eq_zero_of_not_pos (fun J=>by have:=d6.2 J;omega);exact e.ret [] (qS k ((lim x).length) j) (by rw[<-hG,C,Nat.gcd_zero_right];exact ⟨k,j,rfl,o,e.f.1⟩)
 have l:=oT i;refine lB 9 i (au (cK (kZ (ab e aN (lC 13 e (ml x k j o y u z p oM oM (d6.1 oM) _ _ e.g e.f.1 e.f.2.1) ?_)))));rintro _ w5 h6 e ⟨_,_,rfl,⟨Z,Y,rfl,M,hq⟩,⟨L,K,rfl,B,hr⟩⟩;replace e:=e.aS hr;have hmd:=Nat.mod_lt x (d6.1 (show 0<(lim y).length by omega));have U:=io (show x%y<=y by omega);refine lL e [.c,.v (qS Z (lim (x/y)).length Y),.v (qS L ((lim (x%y)).length) K),.c,.c] (a7 (lL e aN (lN (kQ (lL e aN (lD ?_))))));intro a_ W;replace e:=((e.tl.tl.tl.aS e.f.1).aS e.f.r.1);refine ⟨_,_,?_,⟨y,u,z,x%y,L,K,h6,rfl,rfl,e.to _ _,p,B,oM,oM,(by rw[nI];exact hG)⟩,W.to _ kR⟩
 omega
theorem vi (a:Nat)(A:Z9)(c:Nat)(k:(lim a).length<=c)(b:Nat)(D:Z9)(d:Nat)(hd:(lim b).length<=d)(q:Nat)(l:q=Kq a b)(f:(lim a).length<=3000000000)(e:(lim b).length<=1)(w:World)(h:Hp)(g:G w h)(j:S3 A (lim a) h)(i:S3 D (lim b) h):CR 135 #[.slice A (lim a).length c,.slice D (lim b).length d] w h (fun v h1=>RN h1 v q):=by
 subst l;exact vB a A c k b D d hd f e w h g j i
theorem rL {z:Int}(h0 : -4294967296<z)(h1:z<4294967296):(lim (ac z)).length<=1:=ie (by unfold ac;omega)
theorem Fv (x:Int)(A:Z9)(c:Nat)(K:(lim (ac x)).length<=c)(X:(lim (ac x)).length<=2000000000)(y:Int)(D:Z9)(d:Nat)(hd:(lim (ac y)).length<=d)(u:(lim (ac y)).length<=1)(B:y≠0)(w:World)(h:Hp)(g:G w h)(W:S3 A (lim (ac x)) h)(O:S3 D (lim (ac y)) h):CR 98 #[.agg #[.bool (av x),.slice A ((lim (ac x)).length) c],.agg #[.bool (av y),.slice D ((lim (ac y)).length) d]] w h (fun v h1=>RQ h1 v (mkR x y)):=by
 have a:=(((sS g).aS W).aS O);obtain ⟨j,k,i⟩:=vq x y B;obtain ⟨q,hq⟩:∃ q,q=Kq (ac x) (ac y):=⟨_,rfl⟩;rw[<-hq] at j k i
 have Z:(lim q).length<=1:=qf (by rw[hq];exact Nat.gcd_le_right _ (by unfold ac;omega)) u;refine go Tryz.func98 [(0,.agg #[.bool (av x),qS A ((lim (ac x)).length) c]),(1,.agg #[.bool (av y),qS D ((lim (ac y)).length) d])] rfl (aD (lA 2 37 ([.bool (av x),qS A ((lim (ac x)).length) c]) a (fun p w2 h3 a=>lA 3 37 ([.bool (av y),qS D ((lim (ac y)).length) d]) a (fun l w5 h6 a=>lA 4 39 ea a (fun b7 w8 h9 a=>a7 (lL a [.v (qP p 1),.o (qS A ((lim (ac x)).length) c) 2 1 1,.v (qP l 1),.o (qS D ((lim (ac y)).length) d) 1 1 1] (lC 14 a (vi (ac x) A c K (ac y) D d hd q hq oM oM _ _ a.g a.f.2.1 a.f.1) ?_)))))));rintro _ _ _ a ⟨I,H,rfl,L,V⟩;replace a:=a.aS V;refine lL a ae (a7 (lL a [.v (qP p 1),.o (qS A ((lim (ac x)).length) c) 2 1 1,.c] (lC 19 a (ml (ac x) A c K q I H L oM oM i _ _ a.g a.f.r.1 a.f.1) ?_)));rintro _ _ _ a ⟨_,b,rfl,⟨F,J,rfl,Y,Q⟩,-⟩;replace a:=a.aS Q;refine lL a [.c,.v (qS F ((lim ((ac x)/q)).length) J),.v b,.c,.c] (a7 (lL a [.v (qP l 1),.o (qS D ((lim (ac y)).length) d) 1 1 1,.c] (lC 26 a (ml (ac y) D d hd q I H L oM oM i _ _ a.g a.f.r.1 a.f.2.1) ?_)));rintro _ _ _ a ⟨_,e,rfl,⟨za,zb,rfl,S,M⟩,-⟩;replace a:=a.aS M;refine lL a [.c,.v (qS za ((lim ((ac y)/q)).length) zb),.v e,.c,.c] (a7 (lL a [.v (pB p),.o (.bool (av x)) 2 0 1,.v (pB l),.o (.bool (av y)) 1 0 1,.v (.bool ((av x) != (av y))),.c] (lC 35 a (rI ((av x) != (av y)) ((ac x)/q) F J Y _ _ a.g a.f.2.1) ?_)));rintro _ _ _ a ⟨C,z,rfl,U,zq⟩;replace a:=a.aS zq;exact lL a [.c,.v (.agg #[.bool (av (cM ((av x) != (av y)) ((ac x)/q))),qS C ((lim (ac (cM ((av x) != (av y)) ((ac x)/q)))).length) z,qS za ((lim ((ac y)/q)).length) zb])] (lP 0 0 ([.bool (av (cM ((av x) != (av y)) ((ac x)/q))),qS C ((lim (ac (cM ((av x) != (av y)) ((ac x)/q)))).length) z,qS za ((lim ((ac y)/q)).length) zb]) a (fun _ a=>af a [(0,0,3)] (.agg #[.bool (av (cM ((av x) != (av y)) ((ac x)/q))),qS C ((lim (ac (cM ((av x) != (av y)) ((ac x)/q)))).length) z,qS za ((lim ((ac y)/q)).length) zb]) (by unfold RQ;rw[j,k];exact ⟨_,_,_,_,rfl,U,S,a.f.1,a.f.2.1⟩)))
theorem AU (x y:Int)(c:y≠0)(h0 : -9223372036854775808<=x)(h1:x<9223372036854775808)(k : -4294967296<y)(j:y<4294967296)(w:World)(h:Hp)(g:G w h):CR 58 #[iV x,iV y] w h (fun v h1=>RQ h1 v (mkR x y)):=by
 have a:=sS g;have D:=uS h0 h1;have J:=rL k j;refine go Tryz.func58 [(0,iV x),(1,iV y)] rfl (aD (lA 4 39 ea a (fun L w2 j a=>a7 (lL a ae (lC 6 a (sR x oM oM _ _ a.g) ?_)))));rintro _ M K a ⟨F,I,rfl,d,b⟩;replace a:=a.aS b;refine lL a ae (lC 8 a (sR y oM oM _ _ a.g) ?_);rintro _ _ _ a ⟨B,o,rfl,H,z⟩;replace a:=a.aS z;refine lC 9 a (Fv x F I d oM y B o H oM c _ _ a.g a.f.2.1 a.f.1) ?_;rintro _ _ _ a ⟨za,zb,e,i,rfl,u,l,C,p⟩;replace a:=a.aP C p;exact lP 0 0 (DU (mkR x y) za zb e i) a (fun _ a=>af a [(0,0,3)] (rG (mkR x y) za zb e i) (by skip;exact ⟨_,_,_,_,rfl,u,l,a.f.2.1,a.f.1⟩))
theorem GU (a:Nat)(A:Z9)(c:Nat)(k:(lim a).length<=c)(l:(lim a).length<=300000000)(w:World)(h:Hp)(g:G w h)(i:S3 A (lim a) h):CV 51 #[.slice A ((lim a).length) c] w h (nv a):=by
 have b:=((sS g).aS i);have e:=rP a;refine go Tryz.func51 [(0,qS A ((lim a).length) c)] rfl (aD (lA 2 25 ([uV 0,eS]) b (fun p w2 y b=>a7 (lL b ae (lC 4 b (uH a A c k oM _ _ b.g b.f.1) ?_)))));rintro _ x u b ⟨j,rfl,d⟩;replace b:=b.aS d;exact ak 5 b (vP a ((nb a+7)/8) j ((nb a+7)/8) (nR _) oM (A3 a) _ _ b.g b.f.1) (fun z o b=>lP 0 0 (nc a) b (fun _ b=>af b [(0,0,2)] (nv a) rfl))
theorem Il (z:Int)(A:Z9)(c:Nat)(i:(lim (ac z)).length<=c)(d:(lim (ac z)).length<=300000000)(w:World)(h:Hp)(g:G w h)(e:S3 A (lim (ac z)) h):CV 49 #[.agg #[.bool (av z),.slice A ((lim (ac z)).length) c]] w h (iv z):=by
 have a:=((sS g).aS e);have j:=CT (ac z);refine go Tryz.func49 [(0,.agg #[.bool (av z),qS A ((lim (ac z)).length) c])] rfl (aD (lA 1 37 ([.bool (av z),qS A ((lim (ac z)).length) c]) a (fun b w2 x a=>lA 2 27 ([qF,uV 0,eS]) a (fun l o u a=>ag (cR 6 [] mixed a ao ?_)))));exact eV 0 3 (pB b) (eO 1 4 [(1,0,1)] (.bool (av z)) a (eV 2 5 (qP b 1) (eO 3 6 [(1,1,1)] (qS A ((lim (ac z)).length) c) a (aj 4 7 a (fun _ _ a=>GU (ac z) A c i (by first|exact d|exact LQ.ld hq|omega) _ _ a.g a.f.1) (fun y k a=>aj 5 8 a (fun _ _ a=>gc (av z) (ac z) oM _ _ a.g) (fun p _ a=>ce a (fun _ _ a=>tP 6 0 0 (ic (cM (av z) (ac z))) a (fun _ a=>tN (kX (a.ret [(0,0,3)] (iv (cM (av z) (ac z))) (congrArg iv (mP z))))))))))))
theorem xB (q:Rat):mkR q.num ((q.den:Nat):Int)=q:=by
 unfold mkR;rw[if_neg oM];show mkRat q.num q.den=q;rw[Rat.mkRat_self]
theorem I3 (q:Rat)(d:Z9)(c:Nat)(e:Z9)(b:Nat)(j:(lim (ac q.num)).length<=c)(k:(lim q.den).length<=b)(i:LQ 100000000 q)(w:World)(h:Hp)(g:G w h)(l:S3 d (lim (ac q.num)) h)(u:S3 e (lim q.den) h)(z:Tab h):CV 17 #[rG q d c e b] w h (qv q):=by
 have a:=((((sS g).aS l).aS u).add (K:=fun B=>Tab B) z);refine go Tryz.func17 [(0,rG q d c e b)] rfl (aD (lA 1 39 (DU q d c e b) a (fun x w2 J a=>lA 2 29 ca a (fun D F I a=>ag ?_))));have p:=a;exact cR 12 [⟨11,3,.cells (Ky [qF,uV 0,eS,uV 0,eS]) 29 (0,0)⟩] mixed a (aZ (dB kR (fun _ _=>by kernel_rfl)) ao) (eV 0 6 (pB x) (eO 1 7 [(1,0,2)] (.agg #[.bool (av q.num),qS d ((lim (ac q.num)).length) c]) a (eV 3 9 (qP x 2) (eO 4 10 [(1,2,1)] (qS e ((lim q.den).length) b) a (aj 2 8 a (fun _ _ a=>Il q.num d c j (LQ.ln i) _ _ a.g a.f.r.1) (fun L C a=>aj 5 11 a (fun _ _ a=>GU q.den e b k (by first|exact hl|exact LQ.ld i|omega) _ _ a.g a.f.2.1) (fun H _ a=>aj 6 12 a (fun _ _ a=>eF q.den _ _ a.g) (fun _ _ a=>aj 7 13 a (fun _ _ a=>Hs q.num (q.den:Int) (by have:=q.den_pos;omega) (by have:=i.1;omega) (by show (wds q.den).length<=_;have:=i.2;omega) _ _ a.g a.f.1) (fun _ _ a=>eV 8 5 (.tuple #[qv (mkR q.num (q.den:Int)),qT]) (eV 9 14 (qv (mkR q.num (q.den:Int))) (eV 10 15 qT (eU [] p a 29 [qF,uV 0,eS,uV 0,eS] (fun _ _ y a=>tP 12 0 0 (qc (mkR q.num (q.den:Int))) a (fun _ a=>tV 13 4 qT (uy (lL a [.o (qv (mkR q.num (q.den:Int))) 0 0 5] (lP 1 0 (qc (mkR q.num (q.den:Int))) a (fun _ a=>af a [(1,0,5)] (qv (mkR q.num (q.den:Int))) (congrArg qv (xB q))))))))))))))))))))
theorem GR (v:Value)(q:Rat)(i:LQ 100000000 q)(w:World)(h:Hp)(g:G w h)(hv:RQ h v q)(e:Tab h):CV 17 #[v] w h (qv q):=by
 obtain ⟨A,c,B,d,rfl,h1,b,f,a⟩:=hv;exact I3 q A c B d h1 b i w h g f a e
theorem uq (n:Nat)(j:(wds n).length<=100000000)(w:World)(h:Hp)(g:G w h):CR 162 #[nv n] w h (fun v h1=>RN h1 v n):=by
 have a:=sS g;have c:=mF n;refine go Tryz.func162 [(0,nv n)] rfl (aD (lA 1 25 (nc n) a (fun k w2 u a=>lL a ae (a7 (lL a [.o (nv n) 0 0 2] (lC 4 a (Aj n oM _ _ a.g) ?_))))));rintro _ p l a ⟨e,rfl,b⟩;replace a:=a.aS b;refine lC 5 a (xD n ((nb n+7)/8) e ((nb n+7)/8) (nR _) oM (A3 n) _ _ a.g a.f.1) ?_;rintro _ _ _ a ⟨d,i,rfl,za,zb⟩;replace a:=a.aS zb;exact lL a ae (af a [] (qS d ((lim n).length) i) (⟨_,_,rfl,za,a.f.1⟩))
theorem Cu (z:Int):cM (decide (z.sign<(0:Int))) (ac z)=z:=by
 rcases KE z 0 with h|h|h
 ·rw[Kl h];unfold cM ac;simp;omega
 ·subst h;rfl
 ·rw[Km h];unfold cM ac;simp;omega
theorem BG (z:Int)(k:(wds (ac z)).length<=100000000)(w:World)(h:Hp)(g:G w h):CR 160 #[iv z] w h (fun v h1=>RI h1 v z):=by
 have a:=sS g;refine go Tryz.func160 [(0,iv z)] rfl (aD (lA 1 27 (ic z) a (fun u w2 B a=>lA 2 37 ([qF,sZ]) a (fun o p y a=>ag (cR 7 [] mixed a ao ?_)))));refine eO 0 3 [(1,0,3)] (iv z) a (eO 3 6 [(1,0,3)] (iv z) a (aj 1 4 a (fun _ _ a=>mL z oM _ _ a.g) (fun C l a=>eV 2 5 (.bool (decide ((z.sign:Int)<(0:Int)))) (aj 4 7 a (fun _ _ a=>uM z _ _ a.g) (fun x _ a=>eC 5 8 a (fun _ _ a=>uq (ac z) (by first|exact hq.2|omega) _ _ a.g) ?_)))));rintro _ _ _ _ _ a ⟨c,b,rfl,i,j⟩;replace a:=a.aS j;refine eC 6 9 a (fun _ _ a=>rI (decide ((z.sign:Int)<(0:Int))) (ac z) c b i _ _ a.g a.f.1) ?_;rintro _ _ _ _ _ a ⟨za,zb,rfl,e,d⟩;replace a:=a.aS d;exact ce a (fun _ _ a=>tP 7 0 0 ([.bool (av (cM (decide ((z.sign:Int)<(0:Int))) (ac z))),qS za ((lim (ac (cM (decide ((z.sign:Int)<(0:Int))) (ac z)))).length) zb]) a (fun _ a=>tN (kX (a.ret [(0,0,2)] (.agg #[.bool (av (cM (decide ((z.sign:Int)<(0:Int))) (ac z))),qS za ((lim (ac (cM (decide ((z.sign:Int)<(0:Int))) (ac z)))).length) zb]) (by rw[Cu] at *;exact ⟨_,_,rfl,e,a.f.1⟩)))))
theorem IC (q:Rat)(d:LQ 100000000 q)(w:World)(h:Hp)(g:G w h):CR 129 #[qv q] w h (fun v h1=>RQ h1 v q):=by
 have a:=sS g;refine go Tryz.func129 [(0,qv q)] rfl (aD (lA 1 29 (qc q) a (fun x w2 z a=>lA 2 39 ea a (fun p u y a=>ag (cR 7 [] mixed a ao ?_)))));refine eO 0 3 [(1,0,5)] (qv q) a (eO 3 6 [(1,0,5)] (qv q) a (aj 1 4 a (fun _ _ a=>IQ q _ _ a.g) (fun l o a=>eC 2 5 a (fun _ _ a=>BG q.num d.1 _ _ a.g) ?_)));rintro _ _ _ _ _ a ⟨b,za,rfl,k,j⟩;replace a:=a.aS j;refine aj 4 7 a (fun _ _ a=>fB q d _ _ a.g) (fun _ _ a=>eC 5 8 a (fun _ _ a=>uq q.den (by first|exact d.2|omega) _ _ a.g) ?_);rintro _ _ _ _ _ a ⟨zb,c,rfl,i,e⟩;replace a:=a.aS e;exact eV 6 9 (rG q b za zb c) (ce a (fun _ _ a=>tP 7 0 0 (DU q b za zb c) a (fun _ a=>tN (kX (a.ret [(0,0,3)] (rG q b za zb c) (⟨_,_,_,_,rfl,k,i,a.f.2.1,a.f.1⟩))))))
def kU (a b:Rat):Bool:=decide (a=b)
theorem Bq {a b:Rat}(h1:cA (ac a.num) (ac b.num)=0)(e:av a.num=av b.num)(c:cA a.den b.den=0):true=kU a b:=by
 have e1:ac a.num=ac b.num:=by unfold cA at h1;split at h1;omega;split at h1;omega;omega
 have d:a.den=b.den:=by unfold cA at c;split at c;omega;split at c;omega;omega
 have e2:a.num=b.num:=by rw[<-mP a.num,<-mP b.num,e1,e]
 symm
 exact decide_eq_true (Rat.ext e2 d)
theorem n8 (a:Nat):cA a a=0:=by simp[cA]
theorem oP {a b:Rat}(h:cA (ac a.num) (ac b.num)≠0\/av a.num≠av b.num\/cA a.den b.den≠0):false=kU a b:=by
 symm
 refine decide_eq_false ?_;rintro rfl
 rcases h with h|h|h
 ·exact h (n8 _)
 ·exact h rfl
 ·exact h (n8 _)
theorem Hh (q r:Rat)(I:LQ 100000000 q)(hr:LQ 100000000 r)(j:Z9)(i:Nat)(d:Z9)(b:Nat)(x:(lim (ac r.num)).length<=i)(z:(lim r.den).length<=b)(w:World)(h:Hp)(g:G w h)(C:S3 j (lim (ac r.num)) h)(F:S3 d (lim r.den) h):CV 90 #[qv q,rG r j i d b] w h (.bool (kU q r)):=by
 have a:=(((sS g).aS C).aS F);have k:0<(lim r.den).length:=d6.2 r.den_pos;have L:=LQ.ln I;have X:=LQ.ld I;have M:=LQ.ln hr;have U:=LQ.ld hr;refine go Tryz.func90 [(0,qv q),(1,rG r j i d b)] rfl (aD (lA 2 29 (qc q) a (fun Z w2 h3 a=>lA 3 39 (DU r j i d b) a (fun e Y h6 a=>lL a ae (a7 (lL a [.o (qv q) 1 0 5] (lC 7 a (IC q I _ _ a.g) ?_)))))));rintro _ _ _ a ⟨p,y,H,D,rfl,u,S,V,Q⟩;replace a:=a.aP V Q;refine lA 5 39 ea a (fun l _ _ a=>lP 0 0 (DU q p y H D) a (fun _ a=>ag (ab a [.v (qP e 2),.o (qS d ((lim r.den).length) b) 1 2 1,.v (nV ((lim r.den).length))] ?_)));have K:((((lim r.den).length:Nat):Int) == (0:Int))=false:=(by simp;exact fun h=>KZ 0 (by rw[h] at k;exact k));have B:=ah K;refine lB 11 K (ai (cK (ab a [.v (pB l),.v (qP l 1),.o (qS p ((lim (ac q.num)).length) y) 0 1 1,.v (pB e),.v (qP e 1),.o (qS j ((lim (ac r.num)).length) i) 1 1 1] (ak 19 a (k8 (ac q.num) p y u (ac r.num) j i x oM oM _ _ a.g a.f.2.1 a.f.r.2.1) (fun _ _ a=>?_)))));cases za:((cA (ac q.num) (ac r.num):Int) == (0:Int))
 .
  have O:=ah za;refine lB 20 za (lL a ae (lG 22 ?_));refine lG 23 (lG 24 (lG 25 (lG 26 (lG 27 (lG 28 (lL a [.v qF,.c] (lG 31 ?_)))))));exact lG 32 (lG 33 (lG 34 (lG 35 (lG 36 (lL a [.v qF,.c] (af a [] qF (congrArg Value.bool (oP (by first|(left;assumption)|(right;right;assumption)|(right;left;exact beq_eq_false_iff_ne.1 ‹_›))))))))))
 have O:=eq_of_beq za;refine lB 20 za (lL a [.c,.v (pB l),.v (pB l),.o (.bool (av q.num)) 0 0 1,.v (pB e),.v (pB e),.o (.bool (av r.num)) 1 0 1] ?_);cases J:((av q.num) == (av r.num))
 .
  refine lB 28 J (lL a [.v qF,.c] (lG 31 ?_));exact lG 32 (lG 33 (lG 34 (lG 35 (lG 36 (lL a [.v qF,.c] (af a [] qF (congrArg Value.bool (oP (by first|(left;assumption)|(right;right;assumption)|(right;left;exact beq_eq_false_iff_ne.1 ‹_›))))))))))
 refine lB 28 J (lL a [.v qT,.c,.v (qP l 2),.o (qS H ((lim q.den).length) D) 0 2 1,.v (qP e 2),.o (qS d ((lim r.den).length) b) 1 2 1] (ak 35 a (k8 q.den H D S r.den d b z oM oM _ _ a.g a.f.1 a.f.r.1) (fun _ _ a=>?_)));cases zb:((cA q.den r.den:Int) == (0:Int))
 .
  have W:=ah zb;exact lB 36 zb (lL a [.v qF,.c] (af a [] qF (congrArg Value.bool (oP (by first|(left;assumption)|(right;right;assumption)|(right;left;exact beq_eq_false_iff_ne.1 ‹_›))))))
 have W:=eq_of_beq zb;exact lB 36 zb (lL a [.v qT,.c] (af a [] qT (congrArg Value.bool (Bq aM (eq_of_beq ‹_›) aM))))
theorem LQ.mkR {n d:Int}(hd:d≠0)(h0 : -9223372036854775808<=n)(h1:n<=9223372036854775807)(f : -9223372036854775808<=d)(i:d<=9223372036854775807):LQ 1 (mkR n d):=by
 unfold Go.Proofs.YteipbelehcpooaaGreatDoor.mkR
 have c:0<ac d:=by unfold ac;omega
 obtain ⟨a,b,e,h⟩:=gu (if d<0 then -n else n) (ac d) c;refine ⟨?_,?_⟩
 ·rw[a];refine ej.2 (A9 (cc _ _ e) ?_)
  unfold ac;split<;>omega
 ·rw[b];exact ej.2 (A9 (Nat.div_le_self _ _) (by unfold ac;omega))
theorem v6 (q:Rat)(z e:Int)(y:LQ 100000000 q)(B:e≠0)(c : -9223372036854775808<=z)(i:z<9223372036854775808)(k : -4294967296<e)(x:e<4294967296)(w:World)(h:Hp)(g:G w h):CV 42 #[qv q,iV z,iV e] w h (.bool (kU q (mkR z e))):=by
 have a:=sS g;have l:LQ 100000000 (mkR z e):=(LQ.mkR B c oM oM oM).mono oM;refine go Tryz.func42 [(0,qv q),(1,iV z),(2,iV e)] rfl (aD (lA 3 29 (qc q) a (fun C w2 D a=>lL a ae (ag (cR 5 [] mixed a ao ?_)))));refine eO 0 7 [(0,0,5)] (qv q) a (eV 1 8 (iV z) (eV 2 9 (iV e) (eC 3 10 a (fun _ _ a=>AU z e oM oM oM oM oM _ _ a.g) ?_)));rintro _ _ _ _ _ a ⟨o,p,j,u,rfl,d,za,b,zb⟩;replace a:=a.aP b zb;exact aj 4 11 a (fun _ _ a=>Hh q (mkR z e) y l o p j u d za _ _ a.g a.f.2.1 a.f.1) (fun _ _ a=>ce a (fun _ _ a=>tV 5 6 (.bool (kU q (mkR z e))) (tN (kX (a.ret [] (.bool (kU q (mkR z e))) rfl)))))
def cF (n:Int)(m:Nat):Nat:=(n%(m:Int)).toNat
theorem fd (n:Int)(m:Nat)(h:0<m):cF n m<m:=by
 unfold cF
 have h1:=K0 n (show (m:Int)≠0 by omega);have a:=K1 n (show (0:Int)<m by omega)
 omega
theorem p6 (n:Int)(m:Nat)(h:0<m):((cF n m:Nat):Int)=n%(m:Int):=by
 unfold cF
 have h1:=K0 n (show (m:Int)≠0 by omega)
 omega
theorem py (n:Int)(m:Nat)(a:0<m)(b:n<0):(n%(m:Int)=0/\n.tmod (m:Int)=0)\/(0<n%(m:Int)/\n.tmod (m:Int)=n%(m:Int)-m):=by
 have d:=K0 n (show (m:Int)≠0 by omega);rw[Int.tmod_eq_emod]
 by_cases h:(m:Int)∣n
 ·left
  rw[if_pos (.inr h)];have:=Int.emod_eq_zero_of_dvd h;exact ⟨this,by omega⟩
 ·right
  have c:¬(n%(m:Int)=0):=fun h'=>h (Int.dvd_of_emod_eq_zero h')
  rw[if_neg (by intro h';rcases h' with h'|h';omega;exact h h')];refine ⟨by omega,by simp⟩
def pj (k:Nat):Nat:=match k with|0=>1|1=>1|2=>1|3=>2|4=>3|_=>4
theorem mC (k:Nat):0<pj k:=by unfold pj;split<;>omega
theorem pL (k:Nat):pj k<=4:=by unfold pj;split<;>omega
def dj (n:Int):Rat:=mkR ((cF n 41:Int)-20) (pj (cF (n.tdiv 41) 6):Nat)
def Ey (n:Int):Rat:=mkR ((cF n 9:Int)-4) (((cF (n.tdiv 9) 2:Nat):Int)+1)
theorem tU (n:Int)(m:Int)(c:1<m)(a : -9223372036854775808<=n)(b:n<=9223372036854775807) : -9223372036854775808<=n.tdiv m/\n.tdiv m<=9223372036854775807:=by
 have h1:(n.tdiv m).natAbs<=n.natAbs/2:=by
  rw[Int.natAbs_tdiv];exact Nat.div_le_div_left oM oM
 omega
theorem xZ {n:Int}{m:Nat}(a:0<m)(h:n.tmod (m:Int)<0):n.tmod (m:Int)+m=((cF n m:Nat):Int):=by
 rw[p6 n m a]
 rcases K2 n 0 with hn|hn
 ·rcases py n m a hn with ⟨h1,h2⟩|⟨h1,h2⟩<;>omega
 ·rw[K3 hn] at h
  have:=K0 n (show (m:Int)≠0 by omega)
  omega
theorem u6 {n:Int}{m:Nat}(a:0<m)(h:¬n.tmod (m:Int)<0):n.tmod (m:Int)=((cF n m:Nat):Int):=by
 rw[p6 n m a]
 rcases K2 n 0 with hn|hn
 ·rcases py n m a hn with ⟨h1,h2⟩|⟨h1,h2⟩
  ·omega
  ·have:=K1 n (show (0:Int)<m by omega)
   omega
 ·rw[K3 hn]
theorem C9 (n:Int){m:Nat}(b:0<m) : -(m:Int)<n.tmod (m:Int)/\n.tmod (m:Int)<m:=by
 have h1:=Int.tmod_lt_of_pos n (show (0:Int)<m by omega);have a:=Int.lt_tmod_of_pos n (show (0:Int)<m by omega);exact ⟨a,h1⟩
theorem nO (n:Int)(m:Nat)(f:0<m)(i:m<1000000)(w:World)(h:Hp)(g:G w h):CV 52 #[iV n,nV m] w h (nV (cF n m)):=by
 have c:=sS g;obtain ⟨j,l⟩:=C9 n f;refine go Tryz.func52 [(0,iV n),(1,nV m)] rfl (ab c ae (a7 (lL c aN (lV 7 (iV (n.tmod (m:Nat))) ?_ (hr:=gn (t:=3) (u:=3) (x:=.tmp 5) (y:=.tmp 6) (k:=.i64) (a:=n) (b:=(m:Nat)) kR kR kR oM _)))));refine lL c ae (ag (ab c ae ?_));cases d:(decide ((n.tmod (m:Nat):Int)<(0:Int)))
 .
  have e:=oF d;exact lB 9 d (ai (cK (ab c aN (af c [] (iV (n.tmod (m:Nat))) (congrArg (Value.int .i64) (u6 f aM))))))
 have e:=oT d;refine lB 9 d (au (kQ (lL c aN (lI 12 ((n.tmod (m:Nat))+(m:Nat)) ?_))));exact lL c ae (a7 (lL c aN (af c [] (iV ((n.tmod (m:Nat))+(m:Nat))) (congrArg (Value.int .i64) (xZ f aM)))))
theorem wV (w:World):(Instr.index 126 (.agg #[.int .i64 1,.int .i64 1,.int .i64 1,.int .i64 2,.int .i64 3,.int .i64 4]) (.int .i64 0)).run Tryz.prog w=.ok (.int .i64 1) w:=by kernel_rfl
theorem wR (w:World):(Instr.index 126 (.agg #[.int .i64 1,.int .i64 1,.int .i64 1,.int .i64 2,.int .i64 3,.int .i64 4]) (.int .i64 1)).run Tryz.prog w=.ok (.int .i64 1) w:=by kernel_rfl
theorem xV (w:World):(Instr.index 126 (.agg #[.int .i64 1,.int .i64 1,.int .i64 1,.int .i64 2,.int .i64 3,.int .i64 4]) (.int .i64 2)).run Tryz.prog w=.ok (.int .i64 1) w:=by kernel_rfl
theorem vY (w:World):(Instr.index 126 (.agg #[.int .i64 1,.int .i64 1,.int .i64 1,.int .i64 2,.int .i64 3,.int .i64 4]) (.int .i64 3)).run Tryz.prog w=.ok (.int .i64 2) w:=by kernel_rfl
theorem xr (w:World):(Instr.index 126 (.agg #[.int .i64 1,.int .i64 1,.int .i64 1,.int .i64 2,.int .i64 3,.int .i64 4]) (.int .i64 4)).run Tryz.prog w=.ok (.int .i64 3) w:=by kernel_rfl
theorem xG (w:World):(Instr.index 126 (.agg #[.int .i64 1,.int .i64 1,.int .i64 1,.int .i64 2,.int .i64 3,.int .i64 4]) (.int .i64 5)).run Tryz.prog w=.ok (.int .i64 4) w:=by kernel_rfl
theorem FE (k:Nat)(h:k<6)(w:World):(Instr.index 126 (.agg #[.int .i64 1,.int .i64 1,.int .i64 1,.int .i64 2,.int .i64 3,.int .i64 4]) (.int .i64 (k:Int))).run Tryz.prog w=.ok (.int .i64 ((pj k:Nat):Int)) w:=by
 have:k=0\/k=1\/k=2\/k=3\/k=4\/k=5:=by omega
 rcases this with rfl|rfl|rfl|rfl|rfl|rfl
 ·exact wV w
 ·exact wR w
 ·exact xV w
 ·exact vY w
 ·exact xr w
 ·exact xG w
theorem IK {Γ:cH}{o:Oper}{x y:Operand}(k:Nat)(h:k<6)(a:o.op=.index 126 x y)(c:ev Γ x=.agg #[.int .i64 1,.int .i64 1,.int .i64 1,.int .i64 2,.int .i64 3,.int .i64 4])(b:ev Γ y=.int .i64 (k:Nat))(w:World) :
  (execOp (ev Γ) o).run Tryz.prog w=.ok (.value (.int .i64 (pj k:Nat))) w:=by
 unfold execOp;simp only[a];rw[c,b,Sem.run_bind,FE k h w];rfl
theorem hR (n:Int)(h0 : -9223372036854775808<=n)(h1:n<=9223372036854775807)(w:World)(h:Hp)(g:G w h):CR 19 #[iV n] w h (fun v h1=>RQ h1 v (dj n)):=by
 have a:=sS g;obtain ⟨z,D⟩:=tU n 41 oM h0 h1;have F:=fd n 41 oM;have l2:=fd (n.tdiv 41) 6 oM;have p:=mC (cF (n.tdiv 41) 6);have I:=pL (cF (n.tdiv 41) 6);refine go Tryz.func19 [(0,iV n)] rfl (aD (lA 2 39 ea a (fun C w2 J a=>a7 (lL a ae (ak 4 a (nO (n) 41 oM oM _ _ a.g) (fun B H a=>?_))))));have e:=fd (n) 41 oM;refine lI 5 ((cF (n) 41:Nat)-20) (lL a [.v (.agg #[iV 1,iV 1,iV 1,iV 2,iV 3,iV 4]),.c] (lV 8 (iV (n.tdiv 41)) ?_ (hr:=rS ((n.tdiv 41)) kR (l6 oM oM))));refine ak 9 a (nO (n.tdiv 41) 6 oM oM _ _ a.g) (fun K u a=>?_);have l:=fd (n.tdiv 41) 6 oM;refine lV 10 (nV (pj (cF (n.tdiv 41) 6))) ?_ (hr:=IK (x:=.tmp 6) (y:=.tmp 9) (cF (n.tdiv 41) 6) l2 kR kR kR _);refine lC 11 a (AU ((cF (n) 41:Nat)-20) (pj (cF (n.tdiv 41) 6):Nat) oM oM oM oM oM _ _ a.g) ?_;rintro _ _ _ a ⟨za,zb,b,d,rfl,o,k,j,i⟩;replace a:=a.aP j i;exact lP 0 0 (DU (dj n) za zb b d) a (fun _ a=>af a [(0,0,3)] (rG (dj n) za zb b d) (⟨_,_,_,_,rfl,o,k,a.f.2.1,a.f.1⟩))
theorem LQ.hand (n:Int):LQ 1 (dj n):=by
 unfold dj
 have b:=fd n 41 oM;have a:=mC (cF (n.tdiv 41) 6);have c:=pL (cF (n.tdiv 41) 6);exact LQ.mkR oM oM oM oM oM
abbrev RT:=Bool × Value × Value
def Ef (t:RT):List Value:=[.bool t.1,t.2.1,t.2.2]
def EK:RT:=(false,undef,undef)
abbrev rA (t:RT):Value:=.agg #[.bool t.1,t.2.1,t.2.2]
abbrev Sr (A:Z9)(l:List RT):Hp->Prop:=fun h_=>SlO 3 Ef EK h_ A l
def GW (t:RT):Value:=.agg #[.bool t.1,t.2.1,t.2.2]
structure RTs (h:Hp) (ts:List RT) (qs:List Rat):Prop where
  len:ts.length=qs.length
  at_:∀ i,i<qs.length->RQ h (GW (ts.getD i EK)) (qs.getD i 0)
abbrev Rt (t:List RT)(l:List Rat):Hp->Prop:=fun h_=>RTs h_ t l
theorem RTs.gw {h h':Hp}{ts:List RT}{a:List Rat}(r:RTs h ts a)(u:Gw h h'):RTs h' ts a:=⟨r.len,fun i hi=>(r.at_ i hi).gw u⟩
theorem SS.aT {t:List RT}{l:List Rat}{w0 w:World}{h0 h:Hp}{B:List Bx}{R:List Rw}{F:List (Hp->Prop)}(s:SS w0 h0 w h B R F)(p:RTs h t l):SS w0 h0 w h B R (Rt t l::F):=s.add (K:=Rt t l) p
theorem RTs.nil {h:Hp}:RTs h [] []:=⟨rfl,fun i hi=>by simp at hi⟩
theorem bj {α:Type}(l:List α)(x d:α)(i:Nat):(l++[x]).getD i d=if i<l.length then l.getD i d else if i=l.length then x else d:=by
 split
 ·rename_i h;simp[List.getElem?_append_left h]
 ·rename_i h
  split
  ·rename_i a;subst a;simp
  ·rename_i a;simp[x4 (show (l++[x]).length<=i by simp;omega)]
theorem RTs.snoc {h:Hp}{ts:List RT}{a:List Rat}(r:RTs h ts a){t:RT}{q:Rat}(b:RQ h (GW t) q):RTs h (ts++[t]) (a++[q]):=by
 refine ⟨by simp[r.len],fun i hi=>?_⟩;rw[bj,bj,r.len]
 split
 ·rename_i h1;exact r.at_ i h1
 ·rename_i h1
  have:i=a.length:=by simp at hi;omega
  rw[if_pos this,if_pos this];exact b
theorem lZ {α:Type}{l:List α}{k:Nat}(d:α)(h:k<l.length):l.take (k+1)=l.take k++[l.getD k d]:=by
 rw[F2];simp[h]
def vc (v:Value):List Value:=[v]
abbrev Sv (A:Z9)(l:List Value):Hp->Prop:=fun h_=>SlO 1 vc undef h_ A l
def bd (zs:List Int):Nat->List Rat
  | 0=>[]
  | k+1=>bd zs k++[if k<zs.length then dj (zs.getD k 0) else 0]
theorem qe (a:List Int)(k:Nat):(bd a k).length=k:=by induction k with|zero=>rfl|succ k ih=>simp[bd,ih]
def rm (zs:List Int):Prop:=∀ k,-9223372036854775808<=zs.getD k 0/\zs.getD k 0<=9223372036854775807
structure RVs (h:Hp) (vs:List Value) (qss:List (List Rat)):Prop where
  len:vs.length=qss.length
  at_:∀ i,i<qss.length->∃ A cap,∃ ts:List RT,vs.getD i undef=.slice A ts.length cap/\ts.length<=cap/\SlO 3 Ef EK h A ts/\RTs h ts (qss.getD i [])
abbrev Ru (t:List Value)(l:List (List Rat)):Hp->Prop:=fun h_=>RVs h_ t l
structure QVs (h:Hp) (vs:List Value) (qss:List (List Rat)):Prop where
  len:vs.length=qss.length
  at_:∀ i,i<qss.length->HT 5 qc 0 h (vs.getD i undef) (qss.getD i [])
abbrev Qu (t:List Value)(l:List (List Rat)):Hp->Prop:=fun h_=>QVs h_ t l
theorem oN {b:List Int}{k:Nat}{q:Rat}(d:(if k<b.length then dj (b.getD k 0) else 0)=q){a:List RT}{h':Hp}(c:RTs h' a (bd b k++[q])):RTs h' a (bd b (k+1)):=by
 show RTs h' a (bd b k++[_]);rw[d];exact c
theorem tj (a:List Int):∀ n i,LQ 1 ((bd a n).getD i 0)
  | 0,i=>LQ.lit (z:=0) kD
  | n + 1,i=>by
    show LQ 1 ((bd a n++[_]).getD i 0)
    rw[bj]
    split
    . exact tj a n i
    . split
      . split
        . exact LQ.hand _
        . exact LQ.lit (z:=0) kD
      . exact LQ.lit (z:=0) kD
theorem G1 {h:Hp}{A D:Z9}{c d:Nat}{q:Rat}(h1:(lim (ac q.num)).length<=c)(b:(lim q.den).length<=d)(e:SlO 1 gh 0 h A (lim (ac q.num)))(a:SlO 1 gh 0 h D (lim q.den)):RQ h (GW ((av q.num,.slice A (lim (ac q.num)).length c,.slice D (lim q.den).length d):RT)) q:=⟨_,_,_,_,rfl,h1,b,e,a⟩
theorem Fk (A:Z9)(j:Nat)(ts:List RT)(b:List Rat)(V:b.length<=1000000)(hf:∀ i,i<b.length->LQ 100000000 (b.getD i 0))(w:World)(h:Hp)(g:G w h)(L:Sr A ts h)(Q:RTs h ts b)(S:Tab h):CR 6 #[.slice A ts.length j] w h (fun v h1=>HT 5 qc 0 h1 v b):=by
 have a:=((((sS g).aS L).aT Q).add (K:=fun x=>Tab x) S);have D:=(a.f.2.1).len;refine go Tryz.func6 [(0,qS A ts.length j)] rfl (ab a ae (a7 (lL a ae (ag (ab a ae (be ?_))))));replace a:=a.nil 29 5;refine bU _ (CG.loop (fun B Γ F=>∃ (k:Nat)(p:Z9)(u:Nat)(d:List Rat)(x:Hp),B=b.length-k/\Γ=[(0,qS A ts.length j),(2,sZ),(4,nV k),(3,qS p ((d).length) u)]/\SS w h F x [] [⟨29,5,p,u,(d).length,(d).flatMap qc⟩] [fun x=>Tab x,Rt ts b,Sr A ts]/\k<=b.length/\d=b.take k) _ ⟨0,none,0,[],h,rfl,rfl,a.to _ _,JU _,rfl⟩ ?_);rintro _ _ w1 ⟨k,p,u,d,W,H,rfl,a,hk,o⟩;have I:d.length=k:=by rw[o];simp;omega
 refine cQ (ab a [.c,.c,.v (nV ts.length)] ?_);cases e:(decide ((k:Int)<(ts.length:Int)))
 .
  have y:=oF e;refine lB 8 e (ai (CG.exit ?_))
  show CG _ _ _ _ _ _ _ _
  refine ab a aN (lN (kX ?_));have z:d=b:=by rw[o];exact List.take_of_length_le oM
  subst z;obtain ⟨U,a,C⟩:=a.pubr 0 (A:=p) (c:=u) (l:=d) (f:=qc) (ty:=29) (sz:=5) 0 (fun _=>rfl);exact a.ret [] (qS p ((d).length) u) (⟨_,_,rfl,C,a.f.1⟩)
 have y:=oT e;refine lB 8 e (au (cK (cQ (kZ (kQ (lL a ff (lX 14 A ts.length j 3 (k:Nat) k ((a.f.r.1).ok oM) ?_)))))));refine lH 15 (rA (ts.getD k EK)) a ((a.f.r.1).el k oM) (ak 16 a (GR _ (b.getD k 0) (hf k oM) _ _ a.g ((a.f.2.1).at_ k oM) a.f.1) (fun Z X a=>lR 17 29 1 (qc (b.getD k 0)) a (fun za _ _ a=>lY 18 0 29 5 u p d qc (b.getD k 0) 56 za da a a.f.1 (fun zb M _ O a=>lL a ae (lN (kQ (lL a ae (bM 10 ((k:Nat)+1) (k+1) ?_))))))));refine lL a ae (lD ?_);intro Y J;replace a:=a.tl;refine ⟨_,_,?_,⟨k+1,zb,M,d++[b.getD k 0],O,rfl,rfl,a.to _ _,oM,(by rw[lZ 0 oM,o])⟩,J.to _ kR⟩
 omega
theorem In (A:Z9)(e:Nat)(b:List Int)(n:Nat)(hn:n<=1000000)(hl:b.length<=9223372036854775807)(hz:rm b)(w:World)(h:Hp)(g:G w h)(hA:Si A b h):CR 7 #[.slice A b.length e,nV n] w h (fun v h1=>∃ A c,∃ ts:List RT,v=.slice A ts.length c/\ts.length<=c/\Sr A ts h1/\RTs h1 ts (bd b n)):=by
 have a:=((sS g).aS hA);refine go Tryz.func7 [(0,qS A b.length e),(1,nV n)] rfl (ab a ae (a7 (lL a ae (ag (ab a ae (be ?_))))));replace a:=a.nil 39 3;replace a:=a.aT (RTs.nil);refine bU _ (CG.loop (fun F Γ O=>∃ (k:Nat)(j:Z9)(o:Nat)(ts:List RT)(h_:Hp),F=n-k/\Γ=[(0,qS A b.length e),(1,nV n),(4,sZ),(6,nV k),(5,qS j ((ts).length) o)]/\SS w h O h_ [] [⟨39,3,j,o,(ts).length,(ts).flatMap Ef⟩] [Rt ts (bd b k),Si A b]/\k<=n) _ ⟨0,none,0,[],h,rfl,rfl,a.to _ _,JU _⟩ ?_);rintro _ _ w1 ⟨k,j,o,ts,h2,S,rfl,a,hk⟩;have I:=(a.f.1).len;rw[qe] at I
 refine cQ (ab a aN ?_);cases d:(decide ((k:Int)<(n:Int)))
 .
  have p:=oF d;refine lB 9 d (ai (CG.exit ?_))
  show CG _ _ _ _ _ _ _ _
  refine ab a aN (lN (kX ?_));have C:k=n:=by omega
  subst C;obtain ⟨h5,a,L⟩:=a.pubr 0 (A:=j) (c:=o) (l:=ts) (f:=Ef) (ty:=39) (sz:=3) EK (fun _=>rfl);exact a.ret [] (qS j ((ts).length) o) (⟨_,_,ts,rfl,L,a.f.1,a.f.2.1⟩)
 have p:=oT d;refine lB 9 d (au (cK (cQ (kZ (ab a [.c,.c,.v (nV b.length)] ?_)))));cases i:(decide ((k:Int)<(b.length:Int)))
 .
  have u:=oF i;refine lB 15 i (ai (kQ (lL a ae (lC 25 a (I8 0 oM oM _ _ a.g) ?_))));rintro _ _ _ a ⟨x,za,zb,y,rfl,U,zj,zk,zl⟩;replace a:=a.aP zk zl;refine lR 26 39 1 (DU ((0:Int):Rat) x za zb y) a (fun zq _ _ a=>lY 27 0 39 3 o j ts Ef ((av ((0:Int):Rat).num,qS x ((lim (ac ((0:Int):Rat).num)).length) za,qS zb ((lim ((0:Int):Rat).den).length) y):RT) 56 zq (.agg #[qF,sZ,sZ]) a a.f.1 (fun zr zt _ zu a=>lL a ae (lN (kQ (lL a ae (bM 11 ((k:Nat)+1) (k+1) ?_))))));refine lL a ae (lD ?_);intro W z;replace a:=(a.tl.tl.tl.tl.add (K:=Rt (ts++[((av ((0:Int):Rat).num,qS x ((lim (ac ((0:Int):Rat).num)).length) za,qS zb ((lim ((0:Int):Rat).den).length) y):RT)]) (bd b (k+1))) (oN ((if_neg oM).trans (show (0:Rat)=((0:Int):Rat) from rfl)) (RTs.snoc a.f.r.2.1 (G1 U zj a.f.r.1 a.f.2.1))));refine ⟨_,_,?_,⟨k+1,zr,zt,ts++[((av ((0:Int):Rat).num,qS x ((lim (ac ((0:Int):Rat).num)).length) za,qS zb ((lim ((0:Int):Rat).den).length) y):RT)],zu,rfl,rfl,a.to _ _,oM⟩,z.to _ kR⟩
  omega
 have u:=oT i;refine lB 15 i (au (kQ (lL a ff (lX 19 A b.length e 1 (k:Nat) k ((a.f.2.1).ok oM) ?_))));refine lH 20 (iV (b.getD k 0)) a ((a.f.2.1).el k oM) (lC 21 a (hR (b.getD k 0) (hz k).1 (hz k).2 _ _ a.g) ?_);rintro _ _ _ a ⟨J,H,D,B,rfl,X,Y,Q,Z⟩;replace a:=a.aP Q Z;refine lR 22 39 1 (DU (dj (b.getD k 0)) J H D B) a (fun zv _ _ a=>lY 23 0 39 3 o j ts Ef ((av (dj (b.getD k 0)).num,qS J ((lim (ac (dj (b.getD k 0)).num)).length) H,qS D ((lim (dj (b.getD k 0)).den).length) B):RT) 56 zv (.agg #[qF,sZ,sZ]) a a.f.1 (fun M V _ zA a=>lL a ae (lN (kQ (lL a ae (bM 11 ((k:Nat)+1) (k+1) ?_))))));refine lL a ae (lD ?_);intro W z;replace a:=(a.tl.tl.tl.tl.aT (oN (if_pos oM) (RTs.snoc a.f.r.2.1 (G1 X Y a.f.r.1 a.f.2.1))));refine ⟨_,_,?_,⟨k+1,M,V,ts++[((av (dj (b.getD k 0)).num,qS J ((lim (ac (dj (b.getD k 0)).num)).length) H,qS D ((lim (dj (b.getD k 0)).den).length) B):RT)],zA,rfl,rfl,a.to _ _,oM⟩,z.to _ kR⟩
 omega
def maxR (a b:Rat):Rat:=if a<b then b else a
theorem LQ.maxR {k:Nat}{a b:Rat}(d:LQ k a)(c:LQ k b):LQ k (maxR a b):=by unfold Go.Proofs.YteipbelehcpooaaGreatDoor.maxR;split;exact c;exact d
theorem Fa (a:Rat)(k:LQ 100000000 a)(w:World)(h:Hp)(g:G w h):CV 85 #[qv a] w h (qv (bQ a)):=by
 have b:=sS g;refine go Tryz.func85 [(0,qv a)] rfl (aD (lA 1 29 (qc a) b (fun c w2 j b=>lA 2 29 ca b (fun e i f b=>ag (cR 7 [] mixed b ao ?_)))));exact eV 0 3 (pB c) (eO 1 4 [(1,0,3)] (iv a.num) b (eV 4 7 (qP c 3) (eO 5 8 [(1,3,2)] (nv (qd a)) b (aj 2 5 b (fun _ _ b=>uM a.num _ _ b.g) (fun l d b=>aj 3 6 b (fun _ _ b=>eF (ac a.num) _ _ b.g) (fun o _ b=>eV 6 9 (.agg #[.bool (av (((ac a.num):Nat):Int)),uV (lo (ac (((ac a.num):Nat):Int))),.string (hi (ac (((ac a.num):Nat):Int))),uV (lo (qd a)),.string (hi (qd a))]) (ce b (fun _ _ b=>tP 7 0 0 ([.bool (av (((ac a.num):Nat):Int)),uV (lo (ac (((ac a.num):Nat):Int))),.string (hi (ac (((ac a.num):Nat):Int))),uV (lo (qd a)),.string (hi (qd a))]) b (fun _ b=>tN (kX (b.ret [(0,0,5)] (.agg #[.bool (av (((ac a.num):Nat):Int)),uV (lo (ac (((ac a.num):Nat):Int))),.string (hi (ac (((ac a.num):Nat):Int))),uV (lo (qd a)),.string (hi (qd a))]) (ib (mt a) (by unfold qd;rw[rt])))))))))))))
structure Lay where
  k:Int
  W:List (List Rat)
  B:List Rat
def i9:Lay:=⟨0,[],[]⟩
abbrev LV:=Int × Value × Value
def Gs:LV:=(0,undef,undef)
structure NetL (h:Hp) (ts:List LV) (ls:List Lay):Prop where
  len:ts.length=ls.length
  at_:∀ i,i<ls.length->(ts.getD i Gs).1=(ls.getD i i9).k/\(∃ A c,∃ us:List Value,(ts.getD i Gs).2.1=.slice A us.length c/\us.length<=c/\SlO 1 vc undef h A us/\QVs h us (ls.getD i i9).W)/\HT 5 qc 0 h (ts.getD i Gs).2.2 (ls.getD i i9).B
abbrev Nn (t:List LV)(l:List Lay):Hp->Prop:=fun h_=>NetL h_ t l
structure RNetL (h:Hp) (ts:List LV) (ls:List Lay):Prop where
  len:ts.length=ls.length
  at_:∀ i,i<ls.length->(ts.getD i Gs).1=(ls.getD i i9).k/\(∃ A c,∃ us:List Value,(ts.getD i Gs).2.1=.slice A us.length c/\us.length<=c/\SlO 1 vc undef h A us/\RVs h us (ls.getD i i9).W) /\
    (∃ A c,∃ rs:List RT,(ts.getD i Gs).2.2=.slice A rs.length c/\rs.length<=c/\SlO 3 Ef EK h A rs/\RTs h rs (ls.getD i i9).B)
abbrev Rn (t:List LV)(l:List Lay):Hp->Prop:=fun h_=>RNetL h_ t l
def AP (l:List Rat):Prop:=∀ q∈l,∃ z,q=Ey z
structure LayMk (L:Lay) (kq:Nat) (r c:Nat):Prop where
  k:L.k=(kq:Int)
  rows:L.W.length=r
  row:∀ q∈L.W,q.length=c/\AP q
  bl:L.B.length=r
  bs:AP L.B
theorem A6 (A:Z9)(i:Nat)(e:List Int)(F:e.length<=9223372036854775807)(hz:rm e)(a at_:Nat)(J:at_<=e.length)(w:World)(h:Hp)(g:G w h)(x:Own w a 71 [.slice A e.length i,nV at_])(u:h[a]?=some bc)(y:Si A e h):Calls Tryz.prog 53 #[pB a] w (iw a w h fun v w' _=>∃ (z:Int)(at2:Nat),v=iV z/\at2<=e.length/\(-9223372036854775808<=z/\z<=9223372036854775807)/\Own w' a 71 [.slice A e.length i,nV at2]):=by
 have d:UpM [a] w h w h:=UpM.refl g;obtain ⟨wz,p,b⟩:=SS.at_ g x u;replace b:=b.aS y;refine go Tryz.func53 [(0,pB a)] rfl (ab b ae (ag (cQ (cR 10 [] mixed b ao ?_))));refine eV 0 3 (pB a) (eV 1 4 (pB a) (eV 2 5 (qP a 1) (eO 3 6 [(0,1,1)] (nV at_) b (eV 4 7 (pB a) (eV 5 8 (pB a) (eV 6 9 (pB a) (eO 7 10 [(0,0,1)] (qS A e.length i) b (eV 8 11 (nV e.length) ?_))))))));cases j:(decide ((e.length:Int)<=(at_:Int)))
 .
  have k:=oF j;refine eB 9 12 j (FW b (fun w2 M C b=>?_));replace d:=d.trans (C.m _);refine tN (dv (cK (ab b [.c,.v (pB a),.v (qP a 1),.o (nV at_) 0 1 1] (bM 17 ((at_:Nat)+1) (at_+1) ?_))));refine lL b [.v (pB a),.v (qP a 1)] (tH 0 1 ([nV (at_+1)]) b (fun H B b=>?_));replace d:=d.put B (vl.2 rfl) b.g;refine ag (cR 11 [] mixed b ao ?_);refine eV 0 20 (pB a) (eV 1 21 (pB a) (eV 2 22 (pB a) (eO 3 23 [(0,0,1)] (qS A e.length i) b (eV 4 24 (pB a) (eV 5 25 (pB a) (eV 6 26 (qP a 1) (eO 7 27 [(0,1,1)] (nV (at_+1)) b (nu 8 28 ((at_+1:Nat)-1) ((at_+1)-1) (eX 9 29 A e.length i 1 ((at_+1)-1:Nat) ((at_+1)-1) ((b.f.1).ok oM) (eH 10 30 (iV (e.getD ((at_+1)-1) 0)) b ((b.f.1).el ((at_+1)-1) oM) (FW b (fun L K D b=>?_))))))))))));replace d:=d.trans (D.m _);exact tV 11 2 (iV (e.getD ((at_+1)-1) 0)) (tN (kX (b.retM d [] (iV (e.getD ((at_+1)-1) 0)) ⟨e.getD ((at_+1)-1) 0,(at_+1),rfl,by omega,hz _,b.own 0⟩)))
 have k:=oT j;refine eB 9 12 j (FW b (fun I _ l b=>?_));replace d:=d.trans (l.m _);exact tN (bT (ab b ae (lN (kX (b.retM d [] (iV 0) ⟨0,at_,rfl,by omega,⟨by decide,by decide⟩,b.own 0⟩)))))
structure LayFit (L:Lay):Prop where
  rl:L.W.length<=1000000
  rls:∀ i,i<L.W.length->(L.W.getD i []).length<=1000000
  rf:∀ i,i<L.W.length->∀ j,j<(L.W.getD i []).length->LQ 100000000 ((L.W.getD i []).getD j 0)
  bl:L.B.length<=1000000
  bf:∀ i,i<L.B.length->LQ 100000000 (L.B.getD i 0)
structure Stp where
  op:Int
  a:Int
  b:Int
  n:Int
  q:Rat
abbrev sX (p:Stp):Value:=.agg #[iV p.op,iV p.a,iV p.b,iV p.n,.bool (av p.q.num),uV (lo (ac p.q.num)),.string (hi (ac p.q.num)),uV (lo (qd p.q)),.string (hi (qd p.q))]
abbrev sC (p:Stp):List Value:=[iV p.op,iV p.a,iV p.b,iV p.n,.bool (av p.q.num),uV (lo (ac p.q.num)),.string (hi (ac p.q.num)),uV (lo (qd p.q)),.string (hi (qd p.q))]
abbrev sW (o a b n:Int)(q:Rat):Value:=.agg #[iV o,iV a,iV b,iV n,.bool (av q.num),uV (lo (ac q.num)),.string (hi (ac q.num)),uV (lo (qd q)),.string (hi (qd q))]
abbrev sG (o a b n:Int)(q:Rat):List Value:=[iV o,iV a,iV b,iV n,.bool (av q.num),uV (lo (ac q.num)),.string (hi (ac q.num)),uV (lo (qd q)),.string (hi (qd q))]
def aa:Stp:=⟨0,0,0,0,0⟩
abbrev gP (l:List Stp)(k:Nat):Stp:=l.getD k aa
def dw (s:Stp):List Value:=[.int .i64 s.op,.int .i64 s.a,.int .i64 s.b,.int .i64 s.n,.bool (av s.q.num),.int .u64 (lo (ac s.q.num)),.string (hi (ac s.q.num)),.int .u64 (lo (qd s.q)),.string (hi (qd s.q))]
def HY (s:Stp):Value:=.agg #[.int .i64 s.op,.int .i64 s.a,.int .i64 s.b,.int .i64 s.n,.bool (av s.q.num),.int .u64 (lo (ac s.q.num)),.string (hi (ac s.q.num)),.int .u64 (lo (qd s.q)),.string (hi (qd s.q))]
def aK (op:Int):Int :=
  if op=1\/op=2 then 0 else if op=7\/op=8\/op=9\/op=10\/op=11 then 1
  else if op=3\/op=4\/op=5\/op=6\/op=12\/op=13 then 2 else -1
theorem aA (op:Int):(aK op=0/\(op=1\/op=2))\/(aK op=1/\(op=7\/op=8\/op=9\/op=10\/op=11))\/(aK op=2/\(op=3\/op=4\/op=5\/op=6\/op=12\/op=13))\/(aK op = -1/\(op<1\/13<op)):=by
 unfold aK;split
 ·exact .inl ⟨rfl,by assumption⟩
 ·split
  ·exact .inr (.inl ⟨rfl,by assumption⟩)
  ·split
   ·exact .inr (.inr (.inl ⟨rfl,by assumption⟩))
   ·exact .inr (.inr (.inr ⟨rfl,by omega⟩))
def dS (i:Nat)(tt:Int)(used:Prop):Prop:=(used->0<=tt/\tt<i)/\(¬used->tt=0)
def Formed (inp:Int)(i:Nat)(s:Stp):Prop :=
  0<=aK s.op/\dS i s.a (0<aK s.op)/\dS i s.b (1<aK s.op)/\(s.op≠1->s.q.num=0) /\
  (s.op=2->0<=s.n/\s.n<inp)/\(s.op=8 -> -12<=s.n/\s.n<=12)/\(s.op≠2->s.op≠8->s.n=0)
instance (i:Nat) (tt:Int) (u:Prop) [Decidable u]:Decidable (dS i tt u):=by unfold dS;infer_instance
instance (inp:Int) (i:Nat) (s:Stp):Decidable (Formed inp i s):=by unfold Formed;infer_instance
def bB (s:Stp)(hv:List Int):Int :=
  if aK s.op=0 then 1 else if aK s.op=2 then hv.getD s.a.toNat 0+hv.getD s.b.toNat 0
  else if s.op=11 then 2*hv.getD s.a.toNat 0 else if s.op=8 then max (max s.n (0-s.n)) 1*hv.getD s.a.toNat 0 else hv.getD s.a.toNat 0
def oy (inp:Int):List Stp->List Int->Int
  | [],_=>0
  | s::r,hv=>if Formed inp hv.length s then (if 65536<bB s hv then 18 else oy inp r (hv++[bB s hv])) else 2
def fr (n:Nat)(os:List Int):Prop:=∀ i,i<os.length->0<=os.getD i 0/\os.getD i 0<n
instance (n:Nat) (os:List Int):Decidable (fr n os):=by unfold fr;infer_instance
def bZ (inp:Int)(l:List Stp)(os:List Int):Int :=
  if 0<=inp/\inp<=1000/\l.length<=65536/\os.length<=300 then (if oy inp l []=0 then (if fr l.length os then 0 else 1) else oy inp l []) else 5
theorem jv {l:List Stp}{k:Nat}(h:k<l.length):l.drop k=l.getD k aa::l.drop (k+1):=by
 rw[List.drop_eq_getElem_cons h];simp[h]
theorem tQ {inp:Int}{l:List Stp}{hv:List Int}{k:Nat}(hk:k<l.length)(a:hv.length=k)(h:¬Formed inp k (l.getD k aa)):oy inp (l.drop k) hv=2:=by
 rw[jv hk,oy,a,if_neg h]
theorem qw {inp:Int}{l:List Stp}{hv:List Int}{k:Nat}(hk:k<l.length)(a:hv.length=k)(h:Formed inp k (l.getD k aa))(b:65536<bB (l.getD k aa) hv):oy inp (l.drop k) hv=18:=by
 rw[jv hk,oy,a,if_pos h,if_pos b]
theorem pU {inp:Int}{l:List Stp}{hv:List Int}{k:Nat}(hk:k<l.length)(a:hv.length=k)(h:Formed inp k (l.getD k aa))(b:¬65536<bB (l.getD k aa) hv):oy inp (l.drop k) hv=oy inp (l.drop (k+1)) (hv++[bB (l.getD k aa) hv]):=by
 rw[jv hk,oy,a,if_pos h,if_neg b]
theorem ke {l:List Int}{k j:Nat}(h:j<k):(l.take k).getD j 0=l.getD j 0:=by
 rw[A4,List.getElem?_take_of_lt h,<-A4]
theorem gA {inp:Int}{s:Stp}{L:List Int}{k:Nat}(h:Formed inp k s):bB s (L.take k)=bB s L:=by
 obtain ⟨h0,⟨a,_⟩,⟨b,_⟩,_⟩:=h
 unfold bB
 rcases aA s.op with ⟨e,_⟩|⟨e,_⟩|⟨e,_⟩|⟨e,_⟩
 ·rw[e];rfl
 ·have:=a oM
  rw[e,ke oM];simp
 ·have:=a oM;have:=b oM
  rw[e,ke oM,ke oM]
 ·omega
theorem nC {L:List Int}{k:Nat}{x:Int}(h:k<L.length):(L.set k x).take (k+1)=L.take k++[x]:=by
 rw[F2,List.take_set_of_le (ey k)]
 simp[h]
def Wts (L:List Int)(k:Nat):Prop:=∀ j,j<k->1<=L.getD j 0/\L.getD j 0<=65536
theorem Wts.weight {inp:Int}{s:Stp}{L:List Int}{k:Nat}(w:Wts L k)(h:Formed inp k s):1<=bB s L/\bB s L<=786432:=by
  obtain ⟨h0,⟨f,_⟩,⟨l,_⟩,_,_,i,_⟩:=h
  unfold bB
  rcases aA s.op with ⟨e,_⟩|⟨e,_⟩|⟨e,_⟩|⟨e,_⟩
  . rw[e,if_pos rfl];decide
  . have h1:=f oM
    have d:=w s.a.toNat oM;rw[e,if_neg kD,if_neg kD]
    split
    . omega
    . split
      . have j:=i aM
        have c:1<=max (max s.n (0-s.n)) 1/\max (max s.n (0-s.n)) 1<=12:=by omega
        have o:1*1<=max (max s.n (0-s.n)) 1*L.getD s.a.toNat 0:=K4 c.1 d.1 oM oM;have p:max (max s.n (0-s.n)) 1*L.getD s.a.toNat 0<=12*65536:=K4 c.2 d.2 oM oM
        omega
      . omega
  . have h1:=f oM
    have d:=w s.a.toNat oM;have j:=l oM;have c:=w s.b.toNat oM;rw[e,if_neg kD,if_pos rfl];omega
  . omega
theorem Wts.pow {inp:Int}{s:Stp}{L:List Int}{k:Nat}(w:Wts L k)(h:Formed inp k s)(b:s.op=8):1<=max (max s.n (0-s.n)) 1*L.getD s.a.toNat 0/\max (max s.n (0-s.n)) 1*L.getD s.a.toNat 0<=786432:=by
 have:=w.weight h
 unfold bB aK at this
 simp only[b] at this
 simpa using this
theorem Wts.snoc {L:List Int}{k:Nat}{x:Int}(w:Wts L k)(hk:k<L.length)(h1:1<=x)(a:x<=65536):Wts (L.set k x) (k+1):=fun j b=>by
 by_cases e:j=k
 ·subst e;rw[A4,yw hk];exact ⟨h1,a⟩
 ·rw[A4,yx (Ne.symm e),<-A4];exact w j oM
theorem fi {inp:Int}{l:List Stp}{os:List Int}(h:¬(0<=inp/\inp<=1000/\l.length<=65536/\os.length<=300)):bZ inp l os=5:=by unfold bZ;rw[if_neg h]
theorem qR {inp:Int}{l:List Stp}{os:List Int}(h:0<=inp/\inp<=1000/\l.length<=65536/\os.length<=300)(a:oy inp l []≠0):bZ inp l os=oy inp l []:=by unfold bZ;rw[if_pos h,if_neg a]
theorem oq {inp:Int}{l:List Stp}{os:List Int}(h:0<=inp/\inp<=1000/\l.length<=65536/\os.length<=300)(b:oy inp l []=0)(a:¬fr l.length os):bZ inp l os=1:=by unfold bZ;rw[if_pos h,if_pos b,if_neg a]
theorem qk {inp:Int}{l:List Stp}{os:List Int}(h:0<=inp/\inp<=1000/\l.length<=65536/\os.length<=300)(b:oy inp l []=0)(a:fr l.length os):bZ inp l os=0:=by unfold bZ;rw[if_pos h,if_pos b,if_pos a]
structure RSt where
  op:Int
  a:Int
  b:Int
  n:Int
  t:RT
def H8:RSt:=⟨0,0,0,0,EK⟩
structure OSt where
  op:Int
  a:Int
  b:Int
  n:Int
  q:Rat
  has:Bool
def Fd:OSt:=⟨0,0,0,0,0,false⟩
def Ja (o:OSt):Nat:=if o.has then o.q.den else 0
def OSt.stp (o:OSt):Stp:=⟨o.op,o.a,o.b,o.n,o.q⟩
abbrev gO (s:List OSt)(k:Nat):OSt:=s.getD k Fd
abbrev mO (s:List OSt):List Stp:=s.map OSt.stp
structure RS1 (h:Hp) (t:RSt) (o:OSt):Prop where
  op:t.op=o.op
  a:t.a=o.a
  b:t.b=o.b
  n:t.n=o.n
  q:RP h (GW t.t) o.q.num (Ja o)
  z:o.has=false->o.q=0
structure RSs (h:Hp) (ts:List RSt) (os:List OSt):Prop where
  len:ts.length=os.length
  at_:∀ i,i<os.length->RS1 h (ts.getD i H8) (os.getD i Fd)
structure OSm (o:OSt):Prop where
  op : -1000<=o.op/\o.op<=1000
  a : -1000<=o.a/\o.a<=1000
  b : -1000<=o.b/\o.b<=1000
  n : -1000<=o.n/\o.n<=1000
  q:LQ 1 o.q
def Ih (os:List OSt):Prop:=∀ i,i<os.length->OSm (os.getD i Fd)
def Gu (k:Nat)(s:Stp):Prop:=(0<aK s.op->s.a.toNat<k)/\(1<aK s.op->s.b.toNat<k)/\(0<aK s.op->s.b.toNat<k)/\(s.op≠2->0<=aK s.op)
theorem Formed.opr {inp:Int}{k:Nat}{s:Stp}(h:Formed inp k s):Gu k s:=by
 obtain ⟨b,⟨f1,c⟩,⟨f2,a⟩,_⟩:=h;refine ⟨fun h=>by have:=f1 h;omega,fun h=>by have:=f2 h;omega,fun h=>?_,fun _=>b⟩;have:=f1 h
 by_cases h2:1<aK s.op
 ·have:=f2 h2;omega
 ·have:=a h2;omega
section
variable {inp:Int}{i:Nat}{s:Stp}(h:Formed inp i s)
include h
theorem Formed.ix:0<=s.a/\0<=s.b/\s.a.toNat<=i/\s.b.toNat<=i:=by
 obtain ⟨f0,⟨f1,f1'⟩,⟨f2,f2'⟩,_⟩:=h
 by_cases h1:0<aK s.op
 ·have:=f1 h1
  by_cases h2:1<aK s.op
  ·have:=f2 h2;omega
  ·have:=f2' h2;omega
 ·have:=f1' h1;have:=f2' oM;omega
theorem Formed.nm (e:s.op=2):0<=s.n/\s.n<inp:=h.2.2.2.2.1 e
theorem Formed.op_ (a:s.op≠2):1<=s.op/\s.op<=13/\s.op≠2:=by have:=aA s.op;have:=h.1;omega
theorem Formed.o68:(s.op=6\/s.op=8->s.a.toNat<i)/\(s.op=6->s.b.toNat<i):=⟨fun e=>h.opr.1 (by rcases e with e|e<;>rw[e]<;>decide),fun e=>h.opr.2.1 (by rw[e];decide)⟩
end
structure LayLen (L:Lay):Prop where
  rl:L.W.length<=1000000
  rls:∀ i,i<L.W.length->(L.W.getD i []).length<=1000000
  bl:L.B.length<=1000000
structure Mat (W:List (List Rat)) (r c:Nat):Prop where
  rows:W.length=r
  rpos:0<r
  cpos:0<c
  row:∀ i,i<r->(W.getD i []).length=c
structure Net3 (ls:List Lay) (d:Nat->Nat):Prop where
  len:1<=ls.length/\ls.length<=4
  first:d 0<=20
  lay:∀ i,i<ls.length->Mat (ls.getD i i9).W (d (i+1)) (d i)/\(ls.getD i i9).B.length=d (i+1)/\d (i+1)<=12/\((ls.getD i i9).k=1\/(ls.getD i i9).k=2\/(ls.getD i i9).k=3)
theorem qH (u:Rat):0<((1:Int):Rat)+bQ u:=by
 have h:(0:Rat)<=bQ u:=by rw[<-Rat.num_nonneg,mt];omega
 have h1:(0:Rat)<((1:Int):Rat):=by decide
 grind
theorem mh (u:Rat):(((1:Int):Rat)+bQ u).num≠0:=by
 have:=qH u;intro e;have e2:((1:Int):Rat)+bQ u=0:=by rw[<-KY];exact e
 rw[e2] at this;exact absurd this kD
def IZ (k:Int)(u:Rat):Rat:=if k=2 then maxR u 0 else if k=3 then u/(((1:Int):Rat)+bQ u) else u
def Id (L:Lay)(x:List Rat):List Rat:=(po L.W.length).map fun i=>IZ L.k (d9 (L.W.getD i []) x x.length+L.B.getD i 0)
def Ds (ls:List Lay)(xs:List Rat):Nat->List Rat
  | 0=>xs
  | k+1=>Id (ls.getD k i9) (Ds ls xs k)
abbrev gD (ls:List Lay)(xs:List Rat)(k r:Nat):Rat:=d9 ((ls.getD k i9).W.getD r []) (Ds ls xs k) (Ds ls xs k).length
abbrev gS (ls:List Lay)(xs:List Rat)(k r:Nat):Rat:=gD ls xs k r+((ls.getD k i9).B).getD r 0
structure NetB (ls:List Lay) (xs:List Rat):Prop where
  w:∀ k i j,LQ 1000000 (((ls.getD k i9).W.getD i []).getD j 0)
  b:∀ k i,LQ 1000000 ((ls.getD k i9).B.getD i 0)
  x:∀ k,k<=ls.length->∀ j,LQ 1000000 ((Ds ls xs k).getD j 0)
theorem eD {n:Nat}:∀ j,(y2 n (0:Rat)).getD j 0=0:=fun j=>by
 rw[A4,List.getElem?_replicate];split<;>rfl
structure LaySz (L:Lay):Prop where
  rl:L.W.length<=8
  rls:∀ i,(L.W.getD i []).length<=8
  bl:L.B.length<=8
  w:∀ i j,LQ 1 ((L.W.getD i []).getD j 0)
  b:∀ i,LQ 1 (L.B.getD i 0)
  b4:L.B.length<=4
  w4:(L.W.getD 0 []).length<=4
theorem jd {k:Nat}(h:1<=k):LQ k 0:=(LQ.lit (z:=0) kD).mono h
theorem dL {α:Type}{l:List α}{n i:Nat}{d x:α}(h:n<l.length):(l.set n x).getD i d=if i=n then x else l.getD i d:=by
 split
 ·rename_i e;subst e;simp[h]
 ·rename_i e;rw[A4,yx (Ne.symm e),<-A4]
structure LayS4 (L:Lay):Prop where
  rl:L.W.length<=4
  rls:∀ i,(L.W.getD i []).length<=4
  bl:L.B.length<=4
  w:∀ i j,LQ 1 ((L.W.getD i []).getD j 0)
  b:∀ i,LQ 1 (L.B.getD i 0)
theorem bG {α:Type}{l:List α}{i:Nat}{d:α}(h:l.length<=i):l.getD i d=d:=by rw[A4,x4 h];rfl
def bV (a:Rat):Nat->Rat
  | 0=>((1:Int):Rat)
  | k+1=>bV a k*a
theorem k7 {a:Rat}(h:a≠0):∀ k,bV a k≠0
 | 0=>by show ((1:Int):Rat)≠0;decide
 | k+1=>by show bV a k*a≠0;have:=k7 h k;grind
theorem vo {k:Nat}(h:0<k):bV 0 k=0:=by
 obtain ⟨j,rfl⟩:∃ j,k=j+1:=⟨k-1,by omega⟩
 show bV 0 j*0=0;rw[Rat.mul_zero]
def dX (a:Rat)(n:Int):Rat:=if 0<=n then bV a n.natAbs else ((1:Int):Rat)/bV a n.natAbs
def mZ (a b:Rat):Rat:=if b<a then b else a
def jX (op n:Int)(q a b:Rat):Rat :=
  if op=1 then q else if op=3 then a+b else if op=4 then a-b else if op=5 then a*b else if op=6 then a/b else if op=7 then -a
  else if op=8 then dX a n else if op=9 then bQ a else if op=10 then maxR a 0 else if op=11 then a/(bQ a+((1:Int):Rat)) else if op=12 then maxR a b else mZ a b
def i8 (op n:Int)(a b:Rat):Prop:=(op=6->b≠0)/\(op=8->n<0->a≠0)
instance (op n:Int) (a b:Rat):Decidable (i8 op n a b):=by unfold i8;infer_instance
def jh (op:Int)(a b:Rat):Prop:=(op=9\/op=10)/\a=0\/(op=12\/op=13)/\a=b
instance (op:Int) (a b:Rat):Decidable (jh op a b):=by unfold jh;infer_instance
def nG (s:Stp)(at_ v:List Rat):Rat:=if s.op=2 then at_.getD s.n.toNat 0 else jX s.op s.n s.q (v.getD s.a.toNat 0) (v.getD s.b.toNat 0)
def aR (l:List Stp)(at_:List Rat):Nat->List Rat
  | 0=>[]
  | k+1=>aR l at_ k++[nG (l.getD k aa) at_ (aR l at_ k)]
theorem eN (l:List Stp)(at_:List Rat):∀ k,(aR l at_ k).length=k
 | 0=>rfl
 | k+1=>by show (aR l at_ k++[_]).length=_;rw[yR,eN l at_ k];rfl
def eW (sm:Bool)(s:Stp)(v:List Rat):Int:=if s.op=2 then 0 else if i8 s.op s.n (v.getD s.a.toNat 0) (v.getD s.b.toNat 0) then (if sm=true/\jh s.op (v.getD s.a.toNat 0) (v.getD s.b.toNat 0) then 7 else 0) else 6
def terr (sm:Bool)(l:List Stp)(at_:List Rat):Nat->Int
  | 0=>0
  | k+1=>if terr sm l at_ k=0 then eW sm (l.getD k aa) (aR l at_ k) else terr sm l at_ k
theorem jD {sm:Bool}{l:List Stp}{at_:List Rat}{k:Nat}(h:terr sm l at_ k≠0):∀ j,terr sm l at_ (k+j)=terr sm l at_ k
  | 0=>rfl
  | j+1=>by
    have e:=jD h j
    show (if terr sm l at_ (k+j)=0 then eW sm (l.getD (k+j) aa) (aR l at_ (k+j)) else terr sm l at_ (k+j))=_
    rw[e,if_neg h]
theorem vb {sm:Bool}{l:List Stp}{at_:List Rat}{k n:Nat}(h0:terr sm l at_ k=0)(hk:k<n)(h:eW sm (l.getD k aa) (aR l at_ k)≠0):terr sm l at_ n=eW sm (l.getD k aa) (aR l at_ k):=by
 have e:terr sm l at_ (k+1)=eW sm (l.getD k aa) (aR l at_ k):=by show (if _=0 then _ else _)=_;rw[if_pos h0]
 obtain ⟨j,rfl⟩:∃ j,n=k+1+j:=⟨n-(k+1),by omega⟩;rw[jD (by rw[e];exact h),e]
theorem uO {sm:Bool}{l:List Stp}{at_:List Rat}{k:Nat}(h0:terr sm l at_ k=0)(h:eW sm (l.getD k aa) (aR l at_ k)=0):terr sm l at_ (k+1)=0:=by
 show (if _=0 then _ else _)=_;rw[if_pos h0];exact h
def ge (v:List Rat)(os:List Int):List Rat:=os.map fun o=>v.getD o.toNat 0
def j9 (op n:Int)(a b:Rat):Rat :=
  if op=3 then ((1:Int):Rat) else if op=4 then ((1:Int):Rat) else if op=5 then b else if op=6 then ((1:Int):Rat)/b else if op=7 then -((1:Int):Rat)
  else if op=8 then (if n=0 then 0 else dX a (n-1)*((n:Int):Rat)) else if op=9 then ((a.num.sign:Int):Rat) else if op=10 then ((max a.num.sign 0:Int):Rat)
  else if op=11 then (((1:Int):Rat)/(((1:Int):Rat)+bQ a))*(((1:Int):Rat)/(((1:Int):Rat)+bQ a))
  else if op=12 then (if b<a then ((1:Int):Rat) else 0) else if op=13 then (if b<a then 0 else ((1:Int):Rat)) else 0
def kL (op:Int)(a b:Rat):Rat :=
  if op=3 then ((1:Int):Rat) else if op=4 then -((1:Int):Rat) else if op=5 then a else if op=6 then -(a*(((1:Int):Rat)/b)*(((1:Int):Rat)/b))
  else if op=12 then (if b<a then 0 else ((1:Int):Rat)) else if op=13 then (if b<a then ((1:Int):Rat) else 0) else 0
def np (s:Stp)(way v d:List Rat):Rat :=
  if s.op=2 then way.getD s.n.toNat 0
  else (if 0<aK s.op then j9 s.op s.n (v.getD s.a.toNat 0) (v.getD s.b.toNat 0)*d.getD s.a.toNat 0 else 0)+(if 1<aK s.op then kL s.op (v.getD s.a.toNat 0) (v.getD s.b.toNat 0)*d.getD s.b.toNat 0 else 0)
def dO (l:List Stp)(at_ way:List Rat):Nat->List Rat
  | 0=>[]
  | k+1=>dO l at_ way k++[np (l.getD k aa) way (aR l at_ k) (dO l at_ way k)]
theorem kf (l:List Stp)(at_ way:List Rat):∀ k,(dO l at_ way k).length=k
 | 0=>rfl
 | k+1=>by show (dO l at_ way k++[_]).length=_;rw[yR,kf l at_ way k];rfl
theorem i7 (z:Int) : -1<=z.sign/\z.sign<=1:=by
 rcases KE z 0 with h|h|h
 ·rw[Kl h];decide
 ·rw[h];decide
 ·rw[Km h];decide
theorem rK {a:Rat}(h:a≠0):a.num≠0:=fun e=>h (by rw[<-KY];exact e)
theorem e9 {a:Rat}{K:Nat}(h:LQ K a):∀ k,LQ (k*K+1) (bV a k)
 | 0=>LQ.mono (k:=1) (LQ.lit (z:=1) kD) oM
 | k+1=>((e9 h k).mul h).mono (by rw[JG];omega)
theorem Bp {a:Rat}{K:Nat}{n:Int}(b:1<=K)(h:LQ K a)(c : -13<=n/\n<=13):LQ (13*K+2) (dX a n):=by
 have h1:=e9 h n.natAbs;have d:n.natAbs*K<=13*K:=yX _ oM
 unfold dX
 split
 ·exact h1.mono oM
 ·exact ((LQ.lit (z:=1) kD).div h1).mono oM
theorem DQ (a b:Rat)(c:b=0)(w:World)(h:Hp)(g:G w h):CV 83 #[qv a,qv b] w h (.tuple #[qv 0,.bool false]):=by
 subst c;exact Gz a (jd oM) w h g
theorem rN (u:Rat):(bQ u+((1:Int):Rat)).num≠0:=by rw[Rat.add_comm];exact mh u
theorem DC {op:Int}{a b:Rat}(h:op=9\/op=10):(a.num.sign == (0:Int))=decide (jh op a b):=by
 have e:a.num.sign=0↔a=0:=by rw[K5,KY]
 by_cases h0:a=0
 ·rw[decide_eq_true (show jh op a b from .inl ⟨h,h0⟩)];simpa using e.2 h0
 ·rw[decide_eq_false (show ¬jh op a b from fun x=>by rcases x with x|x;exact h0 x.2;omega)]
  simpa using fun h1=>h0 (e.1 h1)
theorem fG {a b:Rat}:dQ a b=0↔a=b:=by
 constructor
 ·intro h
  have h1:¬a<b:=fun x=>by have:=iU.2 x;omega
  have c:¬b<a:=fun x=>by have:=fa.2 x;omega
  grind
 ·intro h;subst h
  have h1:¬dQ a a<0:=fun x=>by have:=iU.1 x;grind
  have c:¬dQ a a>0:=fun x=>by have:=fa.1 x;grind
  omega
theorem Dv {op:Int}{a b:Rat}(h:op=12\/op=13):(dQ a b == (0:Int))=decide (jh op a b):=by
 by_cases h0:a=b
 ·rw[decide_eq_true (show jh op a b from .inr ⟨h,h0⟩)];simpa using fG.2 h0
 ·rw[decide_eq_false (show ¬jh op a b from fun x=>by rcases x with x|x;omega;exact h0 x.2)]
  simpa using fun h1=>h0 (fG.1 h1)
theorem Hf {op:Int}{a b:Rat}(h:¬(op=9\/op=10\/op=12\/op=13)):false=decide (jh op a b):=by
 rw[decide_eq_false (show ¬jh op a b from fun x=>by rcases x with x|x<;>omega)]
theorem wq {op n:Int}{a b:Rat}(h:op=12\/op=13)(d:0<dQ a b/\op=12\/¬0<dQ a b/\op=13):Value.tuple #[qv ((1:Int):Rat),qv 0]=.tuple #[qv (j9 op n a b),qv (kL op a b)]:=by
 rcases d with ⟨h1,rfl⟩|⟨h1,rfl⟩
 ·have c:b<a:=fa.1 h1
  unfold j9 kL;simp[c]
 ·have c:¬b<a:=fun x=>h1 (fa.2 x)
  unfold j9 kL;simp[c]
theorem vx {op n:Int}{a b:Rat}(h:op=12\/op=13)(d:0<dQ a b/\op=13\/¬0<dQ a b/\op=12):Value.tuple #[qv 0,qv ((1:Int):Rat)]=.tuple #[qv (j9 op n a b),qv (kL op a b)]:=by
 rcases d with ⟨h1,rfl⟩|⟨h1,rfl⟩
 ·have c:b<a:=fa.1 h1
  unfold j9 kL;simp[c]
 ·have c:¬b<a:=fun x=>h1 (fa.2 x)
  unfold j9 kL;simp[c]
theorem Im (a b:Rat)(e:LQ 100000000 a)(d:LQ 100000000 b)(w:World)(h:Hp)(g:G w h):CV 119 #[qv a,qv b] w h (qv (mZ a b)):=by
 have c:=sS g;refine go Tryz.func119 [(0,qv a),(1,qv b)] rfl (aD (lA 2 29 (qc a) c (fun l w2 x c=>lA 3 29 (qc b) c (fun j k p c=>lA 4 29 ca c (fun u y i c=>ag (ab c [.o (qv b) 1 0 5,.o (qv a) 2 0 5] (ak 7 c (pe b a (LQ.mono d oM) (LQ.mono e oM) _ _ c.g) (fun _ _ c=>?_))))))));cases za:(decide ((dQ b a:Int)<(0:Int)))
 .
  have zb:=oF za;exact lB 8 za (ai (cK (ab c [.o (qv a) 2 0 5] (lP 0 0 (qc a) c (fun _ c=>af c [(0,0,5)] (qv a) (by unfold mZ;rw[if_neg (fun f=>by have:=iU.2 f;omega)]))))))
 have zb:=oT za;exact lB 8 za (au (ab c [.o (qv b) 1 0 5] (lP 0 0 (qc b) c (fun _ c=>af c [(0,0,5)] (qv b) (by unfold mZ;rw[if_pos (iU.1 oM)])))))
theorem Ck (a:Rat)(n:Int)(K:Nat)(Q:14*K+20<=100000000)(j:LQ K a)(S : -13<=n/\n<=13)(b:0<=n)(w:World)(h:Hp)(g:G w h)(L:Tab h):CV 84 #[qv a,iV n] w h (.tuple #[qv (dX a n),.bool true]):=by
 have b:=((sS g).add (K:=fun d=>Tab d) L);obtain ⟨m,hm⟩:∃ m:Nat,m=n.natAbs:=⟨_,rfl⟩;have z:m<=13:=by omega
 refine go Tryz.func84 [(0,qv a),(1,iV n)] rfl (aD (lA 2 29 (qc a) b (fun y w2 V b=>lA 4 29 ca b (fun u O U b=>lL b ae (a7 (ak 7 b (oA 1 oM oM _ _ b.g) (fun W M b=>lA 6 29 ca b (fun B _ J b=>lP 0 0 (qc ((1:Int):Rat)) b (fun _ b=>ag (ab b aN (lI 10 (0-n) ?_)))))))))));refine lV 11 (iV (max (n:Int) (0-n:Int))) ?_ (hr:=ba (n:=(if (0-n:Int)>(n:Int) then (0-n:Int) else (n:Int))) kR (by simp only[mc]));refine lL b ae (be ?_);refine bU _ (CG.loop (fun i Γ C=>∃ (k:Nat)(d:Hp),i=m-k/\Γ=[(1,iV n),(2,pB y),(4,pB u),(5,qF),(6,pB B),(11,iV (max (n:Int) (0-n:Int))),(12,nV k)]/\SS w h C d [⟨B,29,qc (bV a k)⟩,⟨u,29,[qF,uV 0,eS,uV 0,eS]⟩,⟨y,29,qc a⟩] [] [fun d=>Tab d]/\k<=m) _ ⟨0,J,rfl,rfl,b.to _ _,JU _⟩ ?_);rintro _ _ _ ⟨k,_,x,rfl,b,hk⟩;have I:k*K<=13*K:=yX _ oM;have c:=e9 j k;refine aD ?_;cases za:(decide ((k:Int)<(max (n:Int) (0-n:Int):Int)))
 .
  have zb:=oF za;refine lB 13 za (ag (dv (CG.exit ?_)))
  show CG _ _ _ _ _ _ _ _
  refine cQ (ab b ae ?_);have ⟨H,e⟩:=dT (p:=(0:Int)<=(n:Int)) oM;exact lB 19 H (au (ab b [.o (qv (bV a k)) 0 0 5] (lP 1 0 (qc (bV a k)) b (fun _ b=>lL b ae (af b [(1,0,5)] (.tuple #[qv (bV a k),qT]) (by unfold dX;rw[if_pos oM,show n.natAbs=k by omega]))))))
 have zb:=oT za;refine lB 13 za (ag (bT (cK (cQ (kZ (kQ (lL b [.o (qv (bV a k)) 0 0 5,.o (qv a) 2 0 5] ?_)))))));have l:=LQ.mul c j;refine ak 16 b (iL (bV a k) a (LQ.mono c oM) (LQ.mono j oM) _ _ b.g b.f.1) (fun _ F b=>lP 0 0 (qc ((bV a k)*a)) b (fun _ b=>lN (kQ (bM 17 ((k:Nat)+1) (k+1) ?_))));refine lL b ae (lD ?_);intro X D;refine ⟨_,_,?_,⟨k+1,F,rfl,rfl,b.to _ _,oM⟩,D.to _ kR⟩
 omega
theorem Dd (a:Rat)(n:Int)(K:Nat)(V:14*K+20<=100000000)(l:LQ K a)(W : -13<=n/\n<=13)(b:n<0)(i:a≠0)(w:World)(h:Hp)(g:G w h)(Q:Tab h):CV 84 #[qv a,iV n] w h (.tuple #[qv (dX a n),.bool true]):=by
 have b:=((sS g).add (K:=fun d=>Tab d) Q);obtain ⟨m,hm⟩:∃ m:Nat,m=n.natAbs:=⟨_,rfl⟩;have C:m<=13:=by omega
 refine go Tryz.func84 [(0,qv a),(1,iV n)] rfl (aD (lA 2 29 (qc a) b (fun B w2 Y b=>lA 4 29 ca b (fun x U X b=>lL b ae (a7 (ak 7 b (oA 1 oM oM _ _ b.g) (fun Z S b=>lA 6 29 ca b (fun D _ O b=>lP 0 0 (qc ((1:Int):Rat)) b (fun _ b=>ag (ab b aN (lI 10 (0-n) ?_)))))))))));refine lV 11 (iV (max (n:Int) (0-n:Int))) ?_ (hr:=ba (n:=(if (0-n:Int)>(n:Int) then (0-n:Int) else (n:Int))) kR (by simp only[mc]));refine lL b ae (be ?_);refine bU _ (CG.loop (fun j Γ H=>∃ (k:Nat)(d:Hp),j=m-k/\Γ=[(1,iV n),(2,pB B),(4,pB x),(5,qF),(6,pB D),(11,iV (max (n:Int) (0-n:Int))),(12,nV k)]/\SS w h H d [⟨D,29,qc (bV a k)⟩,⟨x,29,[qF,uV 0,eS,uV 0,eS]⟩,⟨B,29,qc a⟩] [] [fun d=>Tab d]/\k<=m) _ ⟨0,O,rfl,rfl,b.to _ _,JU _⟩ ?_);rintro _ _ _ ⟨k,_,y,rfl,b,hk⟩;have M:k*K<=13*K:=yX _ oM;have c:=e9 l k;refine aD ?_;cases za:(decide ((k:Int)<(max (n:Int) (0-n:Int):Int)))
 .
  have zb:=oF za;refine lB 13 za (ag (dv (CG.exit ?_)))
  show CG _ _ _ _ _ _ _ _
  refine cQ (ab b ae ?_);have ⟨L,e⟩:=dF (p:=(0:Int)<=(n:Int)) oM;refine lB 19 L (ai (cK (cQ (cR 5 [] mixed b ao ?_))));refine eO 1 22 [(0,0,5)] (qv (bV a k)) b (aj 0 21 b (fun _ _ b=>oA 1 oM oM _ _ b.g) (fun _ _ b=>?_));have F:=LQ.div (LQ.lit (z:=1) kD) c;exact aj 2 23 b (fun _ _ b=>nz ((1:Int):Rat) (bV a k) (LQ.mono (LQ.lit (z:=1) kD) oM) (LQ.mono c oM) (rK (k7 i k)) _ _ b.g b.f.1) (fun _ _ b=>eV 3 24 (qv (((1:Int):Rat)/(bV a k))) (eV 4 25 qT (ce b (fun _ _ b=>tP 5 1 0 (qc (((1:Int):Rat)/(bV a k))) b (fun _ b=>tV 6 5 qT (tN (kX (b.ret [(1,0,5)] (.tuple #[qv (((1:Int):Rat)/(bV a k)),qT]) (by unfold dX;rw[if_neg oM,show n.natAbs=k by omega])))))))))
 have zb:=oT za;refine lB 13 za (ag (bT (cK (cQ (kZ (kQ (lL b [.o (qv (bV a k)) 0 0 5,.o (qv a) 2 0 5] ?_)))))));have u:=LQ.mul c l;refine ak 16 b (iL (bV a k) a (LQ.mono c oM) (LQ.mono l oM) _ _ b.g b.f.1) (fun _ J b=>lP 0 0 (qc ((bV a k)*a)) b (fun _ b=>lN (kQ (bM 17 ((k:Nat)+1) (k+1) ?_))));refine lL b ae (lD ?_);intro a_ I;refine ⟨_,_,?_,⟨k+1,J,rfl,rfl,b.to _ _,oM⟩,I.to _ kR⟩
 omega
theorem Bw (a:Rat)(n:Int)(K:Nat)(S:14*K+20<=100000000)(l:LQ K a)(U : -13<=n/\n<=13)(b:n<0)(i:a=0)(w:World)(h:Hp)(g:G w h)(M:Tab h):CV 84 #[qv a,iV n] w h (.tuple #[qv 0,.bool false]):=by
 have b:=((sS g).add (K:=fun d=>Tab d) M);obtain ⟨m,hm⟩:∃ m:Nat,m=n.natAbs:=⟨_,rfl⟩;have z:m<=13:=by omega
 refine go Tryz.func84 [(0,qv a),(1,iV n)] rfl (aD (lA 2 29 (qc a) b (fun y w2 W b=>lA 4 29 ca b (fun u Q V b=>lL b ae (a7 (ak 7 b (oA 1 oM oM _ _ b.g) (fun X O b=>lA 6 29 ca b (fun B _ L b=>lP 0 0 (qc ((1:Int):Rat)) b (fun _ b=>ag (ab b aN (lI 10 (0-n) ?_)))))))))));refine lV 11 (iV (max (n:Int) (0-n:Int))) ?_ (hr:=ba (n:=(if (0-n:Int)>(n:Int) then (0-n:Int) else (n:Int))) kR (by simp only[mc]));refine lL b ae (be ?_);refine bU _ (CG.loop (fun j Γ D=>∃ (k:Nat)(d:Hp),j=m-k/\Γ=[(1,iV n),(2,pB y),(4,pB u),(5,qF),(6,pB B),(11,iV (max (n:Int) (0-n:Int))),(12,nV k)]/\SS w h D d [⟨B,29,qc (bV a k)⟩,⟨u,29,[qF,uV 0,eS,uV 0,eS]⟩,⟨y,29,qc a⟩] [] [fun d=>Tab d]/\k<=m) _ ⟨0,L,rfl,rfl,b.to _ _,JU _⟩ ?_);rintro _ _ _ ⟨k,_,x,rfl,b,hk⟩;have J:k*K<=13*K:=yX _ oM;have c:=e9 l k;refine aD ?_;cases za:(decide ((k:Int)<(max (n:Int) (0-n:Int):Int)))
 .
  have zb:=oF za;refine lB 13 za (ag (dv (CG.exit ?_)))
  show CG _ _ _ _ _ _ _ _
  refine cQ (ab b ae ?_);have ⟨I,e⟩:=dF (p:=(0:Int)<=(n:Int)) oM;refine lB 19 I (ai (cK (cQ (cR 5 [] mixed b ao ?_))));exact eO 1 22 [(0,0,5)] (qv (bV a k)) b (aj 0 21 b (fun _ _ b=>oA 1 oM oM _ _ b.g) (fun _ _ b=>aj 2 23 b (fun _ _ b=>DQ ((1:Int):Rat) (bV a k) (by rw[i];exact vo oM) _ _ b.g) (fun _ _ b=>eV 3 24 (qv 0) (eV 4 25 qF (ce b (fun _ _ b=>tP 5 1 0 (qc 0) b (fun _ b=>tV 6 5 qF (tN (kX (b.ret [(1,0,5)] (.tuple #[qv 0,qF]) rfl))))))))))
 have zb:=oT za;refine lB 13 za (ag (bT (cK (cQ (kZ (kQ (lL b [.o (qv (bV a k)) 0 0 5,.o (qv a) 2 0 5] ?_)))))));have C:=LQ.mul c l;refine ak 16 b (iL (bV a k) a (LQ.mono c oM) (LQ.mono l oM) _ _ b.g b.f.1) (fun _ H b=>lP 0 0 (qc ((bV a k)*a)) b (fun _ b=>lN (kQ (bM 17 ((k:Nat)+1) (k+1) ?_))));refine lL b ae (lD ?_);intro Y F;refine ⟨_,_,?_,⟨k+1,H,rfl,rfl,b.to _ _,oM⟩,F.to _ kR⟩
 omega
theorem xR (a:Rat)(n:Int)(K:Nat)(b:14*K+20<=100000000)(e:LQ K a)(c : -13<=n/\n<=13)(f:n<0->a≠0)(w:World)(h:Hp)(g:G w h)(d:Tab h):CV 84 #[qv a,iV n] w h (.tuple #[qv (dX a n),.bool true]):=by
 by_cases hs:0<=n
 ·exact Ck a n K b e c hs w h g d
 ·exact Dd a n K b e c oM (f oM) w h g d
theorem Co (s:Stp)(a b:Rat)(K:Nat)(hK:14*K+20<=100000000)(d:LQ K a)(e:LQ K b)(hq:LQ 1 s.q)(U:1<=K)(hop:1<=s.op/\s.op<=13/\s.op≠2)(hn:s.op=8 -> -12<=s.n/\s.n<=12)(i:i8 s.op s.n a b)(w:World)(h:Hp)(g:G w h)(tb:Tab h):CV 73 #[sX s,qv a,qv b] w h (.tuple #[qv (jX s.op s.n s.q a b),.bool true]):=by
 have c:=((sS g).add (K:=fun h_=>Tab h_) tb);refine go Tryz.func73 [(0,sX s),(1,qv a),(2,qv b)] rfl (aD (lA 3 86 (sC s) c (fun D w2 h3 c=>lA 4 29 (qc a) c (fun b4 w5 h6 c=>lA 5 29 (qc b) c (fun b7 w8 h9 c=>lA 6 29 ca c (fun b10 _ _ c=>lL c ae (ag (ab c [.v (pB D),.o (iV s.op) 3 0 1] (be (aD ?_))))))))));cases za:((s.op:Int) == (1:Int))
 .
  have W:=ah za;refine lB 11 za (lL c ae (ai (aD ?_)));cases zb:((s.op:Int) == (3:Int))
  .
   have Y:=ah zb;refine lB 15 zb (lL c ae (ai (aD ?_)));cases B:((s.op:Int) == (4:Int))
   .
    have zq:=ah B;refine lB 20 B (lL c ae (ai (aD ?_)));cases C:((s.op:Int) == (5:Int))
    .
     have zr:=ah C;refine lB 25 C (lL c ae (ai (aD ?_)));cases y:((s.op:Int) == (6:Int))
     .
      have Z:=ah y;refine lB 30 y (lL c ae (ai (aD ?_)));cases p:((s.op:Int) == (7:Int))
      .
       have zt:=ah p;refine lB 37 p (lL c ae (ai (aD ?_)));cases l:((s.op:Int) == (8:Int))
       .
        have zu:=ah l;refine lB 41 l (lL c ae (ai (aD ?_)));cases j:((s.op:Int) == (9:Int))
        .
         have zv:=ah j;refine lB 49 j (lL c ae (ai (aD ?_)));cases x:((s.op:Int) == (10:Int))
         .
          have V:=ah x;refine lB 53 x (lL c ae (ai (aD ?_)));cases k:((s.op:Int) == (11:Int))
          .
           have X:=ah k;refine lB 58 k (lL c ae (ai (aD ?_)));cases u:((s.op:Int) == (12:Int))
           .
            have zA:=ah u;exact lB 68 u (lL c ae (ai (cK (ab c [.o (qv a) 2 0 5,.o (qv b) 1 0 5] (ak 74 c (Im a b (LQ.mono d oM) (LQ.mono e oM) _ _ c.g) (fun _ _ c=>lP 0 0 (qc (mZ a b)) c (fun _ c=>lL c ae (af c [(0,0,5)] (.tuple #[qv (mZ a b),qT]) (by rw[show s.op=13 by omega];rfl)))))))))
           have zA:=eq_of_beq u;exact lB 68 u (lL c ae (au (ab c [.o (qv a) 2 0 5,.o (qv b) 1 0 5] (ak 71 c (Hg a b (LQ.mono d oM) (LQ.mono e oM) _ _ c.g) (fun _ _ c=>lP 0 0 (qc (maxR a b)) c (fun _ c=>lL c ae (af c [(0,0,5)] (.tuple #[qv (maxR a b),qT]) (by rw[show s.op=12 by omega];rfl))))))))
          have X:=eq_of_beq k;refine lB 58 k (lL c ae (au (cQ (cR 8 [] mixed c ao ?_))));refine eO 0 59 [(2,0,5)] (qv a) c (eO 1 60 [(2,0,5)] (qv a) c ?_);have J:LQ (K) (bQ a):=LQ.abs d;refine aj 2 61 c (fun _ _ c=>Fa a (LQ.mono d oM) _ _ c.g) (fun _ _ c=>aj 3 62 c (fun _ _ c=>oA 1 oM oM _ _ c.g) (fun _ _ c=>?_));have I:=LQ.add J (LQ.lit (z:=1) kD);refine aj 4 63 c (fun _ _ c=>mB (bQ a) ((1:Int):Rat) (LQ.mono J oM) (LQ.mono (LQ.lit (z:=1) kD) oM) _ _ c.g c.f.1) (fun _ _ c=>?_);have Q:=LQ.div d I;exact aj 5 64 c (fun _ _ c=>nz a ((bQ a)+((1:Int):Rat)) (LQ.mono d oM) (LQ.mono I oM) (rN a) _ _ c.g c.f.1) (fun _ _ c=>eV 6 65 (qv (a/((bQ a)+((1:Int):Rat)))) (eV 7 66 qT (ce c (fun _ _ c=>tP 8 0 0 (qc (a/((bQ a)+((1:Int):Rat)))) c (fun _ c=>tV 9 7 qT (tN (kX (c.ret [(0,0,5)] (.tuple #[qv (a/((bQ a)+((1:Int):Rat))),qT]) (by rw[show s.op=11 by omega];rfl)))))))))
         have V:=eq_of_beq x;exact lB 53 x (lL c ae (au (ab c [.o (qv a) 2 0 5,.v (qv 0)] (ak 56 c (Hg a 0 (LQ.mono d oM) (LQ.mono (LQ.lit (z:=0) kD) oM) _ _ c.g) (fun _ _ c=>lP 0 0 (qc (maxR a 0)) c (fun _ c=>lL c ae (af c [(0,0,5)] (.tuple #[qv (maxR a 0),qT]) (by rw[show s.op=10 by omega];rfl))))))))
        have zv:=eq_of_beq j;refine lB 49 j (lL c ae (au (ab c [.o (qv a) 2 0 5] ?_)));have S:LQ (K) (bQ a):=LQ.abs d;exact ak 51 c (Fa a (LQ.mono d oM) _ _ c.g) (fun _ _ c=>lP 0 0 (qc (bQ a)) c (fun _ c=>lL c ae (af c [(0,0,5)] (.tuple #[qv (bQ a),qT]) (by rw[show s.op=9 by omega];rfl))))
       have zu:=eq_of_beq l;exact lB 41 l (lL c ae (au (ab c [.o (qv a) 2 0 5,.v (qP D 3),.o (iV s.n) 3 3 1] (ak 45 c (xR a s.n K hK d (by have:=hn oM;omega) (i.2 oM) _ _ c.g c.f.1) (fun _ _ c=>lL c [.v (qv (dX a s.n)),.v qT] (lP 0 0 (qc (dX a s.n)) c (fun _ c=>lL c ae (af c [(0,0,5)] (.tuple #[qv (dX a s.n),qT]) (by rw[show s.op=8 by omega];rfl)))))))))
      have zt:=eq_of_beq p;refine lB 37 p (lL c ae (au (ab c [.o (qv a) 2 0 5] ?_)));have O:LQ (K) (-a):=LQ.neg d;exact ak 39 c (uZ a (LQ.mono d oM) _ _ c.g) (fun _ _ c=>lP 0 0 (qc (-a)) c (fun _ c=>lL c ae (af c [(0,0,5)] (.tuple #[qv (-a),qT]) (by rw[show s.op=7 by omega];rfl))))
     have Z:=eq_of_beq y;refine lB 30 y (lL c ae (au (ab c [.o (qv a) 2 0 5,.o (qv b) 1 0 5] ?_)));have H:=LQ.div d e;exact ak 33 c (nz a b (LQ.mono d oM) (LQ.mono e oM) (rK (i.1 oM)) _ _ c.g c.f.1) (fun _ _ c=>lL c [.v (qv (a/b)),.v qT] (lP 0 0 (qc (a/b)) c (fun _ c=>lL c ae (af c [(0,0,5)] (.tuple #[qv (a/b),qT]) (by rw[show s.op=6 by omega];rfl)))))
    have zr:=eq_of_beq C;refine lB 25 C (lL c ae (au (ab c [.o (qv a) 2 0 5,.o (qv b) 1 0 5] ?_)));have L:=LQ.mul d e;exact ak 28 c (iL a b (LQ.mono d oM) (LQ.mono e oM) _ _ c.g c.f.1) (fun _ _ c=>lP 0 0 (qc (a*b)) c (fun _ c=>lL c ae (af c [(0,0,5)] (.tuple #[qv (a*b),qT]) (by rw[show s.op=5 by omega];rfl))))
   have zq:=eq_of_beq B;refine lB 20 B (lL c ae (au (ab c [.o (qv a) 2 0 5,.o (qv b) 1 0 5] ?_)));have M:=LQ.sub d e;exact ak 23 c (ID a b (LQ.mono d oM) (LQ.mono e oM) _ _ c.g c.f.1) (fun _ _ c=>lP 0 0 (qc (a-b)) c (fun _ c=>lL c ae (af c [(0,0,5)] (.tuple #[qv (a-b),qT]) (by rw[show s.op=4 by omega];rfl))))
  have Y:=eq_of_beq zb;refine lB 15 zb (lL c ae (au (ab c [.o (qv a) 2 0 5,.o (qv b) 1 0 5] ?_)));have F:=LQ.add d e;exact ak 18 c (mB a b (LQ.mono d oM) (LQ.mono e oM) _ _ c.g c.f.1) (fun _ _ c=>lP 0 0 (qc (a+b)) c (fun _ c=>lL c ae (af c [(0,0,5)] (.tuple #[qv (a+b),qT]) (by rw[show s.op=3 by omega];rfl))))
 have W:=eq_of_beq za;exact lB 11 za (lL c ae (au (ab c [.v (qP D 4),.o (qv s.q) 3 4 5] (lP 0 0 (qc s.q) c (fun _ c=>lL c ae (af c [(0,0,5)] (.tuple #[qv s.q,qT]) (by rw[show s.op=1 by omega];rfl)))))))
theorem CP (s:Stp)(a b:Rat)(K:Nat)(L:14*K+20<=100000000)(O:LQ K a)(J:LQ K b)(U:LQ 1 s.q)(x:1<=K)(z:s.op=6)(k:b=0)(w:World)(h:Hp)(g:G w h)(C:Tab h):CV 73 #[sX s,qv a,qv b] w h (.tuple #[qv 0,.bool false]):=by
 have c:=((sS g).add (K:=fun D=>Tab D) C);refine go Tryz.func73 [(0,sX s),(1,qv a),(2,qv b)] rfl (aD (lA 3 86 (sC s) c (fun y w2 S c=>lA 4 29 (qc a) c (fun H I M c=>lA 5 29 (qc b) c (fun Q V F c=>lA 6 29 ca c (fun B _ _ c=>lL c ae (ag (ab c [.v (pB y),.o (iV s.op) 3 0 1] (be (aD ?_))))))))));have za:((s.op:Int) == (1:Int))=false:=fl oM;have e:=ah za;refine lB 11 za (lL c ae (ai (aD ?_)));have zb:((s.op:Int) == (3:Int))=false:=fl oM;have f:=ah zb;refine lB 15 zb (lL c ae (ai (aD ?_)));have p:((s.op:Int) == (4:Int))=false:=fl oM;have j:=ah p;refine lB 20 p (lL c ae (ai (aD ?_)));have u:((s.op:Int) == (5:Int))=false:=fl oM;have i:=ah u;refine lB 25 u (lL c ae (ai (aD ?_)));have l:((s.op:Int) == (6:Int))=true:=nJ oM;have d:=eq_of_beq l;exact lB 30 l (lL c ae (au (ab c [.o (qv a) 2 0 5,.o (qv b) 1 0 5] (ak 33 c (DQ a b k _ _ c.g) (fun _ _ c=>lL c [.v (qv 0),.v qF] (lP 0 0 (qc 0) c (fun _ c=>lL c ae (af c [(0,0,5)] (.tuple #[qv 0,qF]) rfl))))))))
theorem Br (s:Stp)(a b:Rat)(K:Nat)(I:14*K+20<=100000000)(J:LQ K a)(V:LQ K b)(hq:LQ 1 s.q)(F:1<=K)(H:s.op=8)(W : -12<=s.n/\s.n<0)(k:a=0)(w:World)(h:Hp)(g:G w h)(M:Tab h):CV 73 #[sX s,qv a,qv b] w h (.tuple #[qv 0,.bool false]):=by
 have c:=((sS g).add (K:=fun O=>Tab O) M);refine go Tryz.func73 [(0,sX s),(1,qv a),(2,qv b)] rfl (aD (lA 3 86 (sC s) c (fun y w2 Z c=>lA 4 29 (qc a) c (fun S U X c=>lA 5 29 (qc b) c (fun Y w8 Q c=>lA 6 29 ca c (fun L _ _ c=>lL c ae (ag (ab c [.v (pB y),.o (iV s.op) 3 0 1] (be (aD ?_))))))))));have za:((s.op:Int) == (1:Int))=false:=fl oM;have e:=ah za;refine lB 11 za (lL c ae (ai (aD ?_)));have zb:((s.op:Int) == (3:Int))=false:=fl oM;have i:=ah zb;refine lB 15 zb (lL c ae (ai (aD ?_)));have C:((s.op:Int) == (4:Int))=false:=fl oM;have u:=ah C;refine lB 20 C (lL c ae (ai (aD ?_)));have D:((s.op:Int) == (5:Int))=false:=fl oM;have l:=ah D;refine lB 25 D (lL c ae (ai (aD ?_)));have B:((s.op:Int) == (6:Int))=false:=fl oM;have d:=ah B;refine lB 30 B (lL c ae (ai (aD ?_)));have z:((s.op:Int) == (7:Int))=false:=fl oM;have j:=ah z;refine lB 37 z (lL c ae (ai (aD ?_)));have x:((s.op:Int) == (8:Int))=true:=nJ oM;have p:=eq_of_beq x;exact lB 41 x (lL c ae (au (ab c [.o (qv a) 2 0 5,.v (qP y 3),.o (iV s.n) 3 3 1] (ak 45 c (Bw a s.n K I J oM oM k _ _ c.g c.f.1) (fun _ _ c=>lL c [.v (qv 0),.v qF] (lP 0 0 (qc 0) c (fun _ c=>lL c ae (af c [(0,0,5)] (.tuple #[qv 0,qF]) rfl))))))))
def me (op n:Int)(q a b:Rat):Rat:=if i8 op n a b then jX op n q a b else 0
theorem EX (s:Stp)(a b:Rat)(K:Nat)(d:14*K+20<=100000000)(k:LQ K a)(i:LQ K b)(e:LQ 1 s.q)(c:1<=K)(j:1<=s.op/\s.op<=13/\s.op≠2)(l:s.op=8 -> -12<=s.n/\s.n<=12)(w:World)(h:Hp)(g:G w h)(f:Tab h):CV 73 #[HY s,qv a,qv b] w h (.tuple #[qv (me s.op s.n s.q a b),.bool (decide (i8 s.op s.n a b))]):=by
 by_cases hok:i8 s.op s.n a b
 ·unfold me;rw[if_pos hok,decide_eq_true hok];exact Co s a b K d k i e c j l hok w h g f
 ·unfold me;rw[if_neg hok,decide_eq_false hok]
  by_cases h6:s.op=6/\b=0
  ·exact CP s a b K d k i e c h6.1 h6.2 w h g f
  ·by_cases h8:s.op=8/\s.n<0/\a=0
   ·exact Br s a b K d k i e c h8.1 ⟨(l h8.1).1,h8.2.1⟩ h8.2.2 w h g f
   ·exact absurd ⟨fun x y=>h6 ⟨x,y⟩,fun x y z=>h8 ⟨x,y,z⟩⟩ hok
theorem Cw (s:Stp)(a b:Rat)(K:Nat)(C:K<=100000000)(i:LQ K a)(j:LQ K b)(w:World)(h:Hp)(g:G w h):CV 74 #[sX s,qv a,qv b] w h (.bool (decide (jh s.op a b))):=by
 have d:=sS g;refine go Tryz.func74 [(0,sX s),(1,qv a),(2,qv b)] rfl (aD (lA 3 86 (sC s) d (fun p w2 H d=>lA 4 29 (qc a) d (fun z B D d=>lA 5 29 (qc b) d (fun F I y d=>lL d ae (ag (ab d [.v (pB p),.o (iV s.op) 2 0 1] (be (cQ (ab d [.v (.bool ((s.op:Int) == (9:Int))),.c] (lN ?_)))))))))));cases za:((s.op:Int) == (9:Int))
 .
  try rw[za] at d
  try rw[za]
  have x:=ah za;refine dv (kQ (lL d [.v (.bool ((s.op:Int) == (10:Int))),.c] (lN ?_)));cases zb:((s.op:Int) == (10:Int))
  .
   try rw[zb] at d
   try rw[zb]
   have u:=ah zb;refine dv (cQ (ab d [.v (.bool ((s.op:Int) == (12:Int))),.c] (lN ?_)));cases e:((s.op:Int) == (12:Int))
   .
    try rw[e] at d
    try rw[e]
    have l:=ah e;refine dv (kQ (lL d [.v (.bool ((s.op:Int) == (13:Int))),.c] (lN ?_)));cases f:((s.op:Int) == (13:Int))
    .
     try rw[f] at d
     try rw[f]
     have k:=ah f;exact dv (cK (ab d ae (af d [] qF (congrArg Value.bool (Hf oM)))))
    try rw[f] at d
    try rw[f]
    have k:=eq_of_beq f;exact bT (ab d [.o (qv a) 1 0 5,.o (qv b) 0 0 5] (ak 20 d (pe a b (LQ.mono i oM) (LQ.mono j oM) _ _ d.g) (fun _ _ d=>lL d [.v (.bool ((dQ a b:Int) == (0:Int))),.c] (af d [] (.bool ((dQ a b:Int) == (0:Int))) (congrArg Value.bool (Dv oM))))))
   try rw[e] at d
   try rw[e]
   have l:=eq_of_beq e;exact bT (cK (bT (ab d [.o (qv a) 1 0 5,.o (qv b) 0 0 5] (ak 20 d (pe a b (LQ.mono i oM) (LQ.mono j oM) _ _ d.g) (fun _ _ d=>lL d [.v (.bool ((dQ a b:Int) == (0:Int))),.c] (af d [] (.bool ((dQ a b:Int) == (0:Int))) (congrArg Value.bool (Dv oM))))))))
  try rw[zb] at d
  try rw[zb]
  have u:=eq_of_beq zb;exact bT (ab d [.o (qv a) 1 0 5] (ak 13 d (en a (LQ.mono i oM) _ _ d.g) (fun _ _ d=>lL d [.v (.bool ((a.num.sign:Int) == (0:Int))),.c] (af d [] (.bool ((a.num.sign:Int) == (0:Int))) (congrArg Value.bool (DC oM))))))
 try rw[za] at d
 try rw[za]
 have x:=eq_of_beq za;exact bT (cK (bT (ab d [.o (qv a) 1 0 5] (ak 13 d (en a (LQ.mono i oM) _ _ d.g) (fun _ _ d=>lL d [.v (.bool ((a.num.sign:Int) == (0:Int))),.c] (af d [] (.bool ((a.num.sign:Int) == (0:Int))) (congrArg Value.bool (DC oM))))))))
theorem BV (s:Stp)(a b:Rat)(K:Nat)(hK:14*K+20<=100000000)(x:LQ K a)(L:LQ K b)(hq:LQ 1 s.q)(hK1:1<=K)(hop:1<=s.op/\s.op<=13/\s.op≠2)(hn:s.op=8 -> -12<=s.n/\s.n<=12)(D:s.op=6->b≠0)(hok:s.op=8->s.n<0->a≠0)(w:World)(h:Hp)(g:G w h)(tb:Tab h):CV 34 #[sX s,qv a,qv b] w h (.tuple #[qv (j9 s.op s.n a b),qv (kL s.op a b)]):=by
 have d:=((sS g).add (K:=fun h_=>Tab h_) tb);have hsg:=i7 a.num;refine go Tryz.func34 [(0,sX s),(1,qv a),(2,qv b)] rfl (aD (lA 3 86 (sC s) d (fun B w2 h3 d=>lA 4 29 (qc a) d (fun b4 w5 h6 d=>lA 5 29 (qc b) d (fun b7 w8 h9 d=>lA 6 29 ca d (fun za _ _ d=>lA 7 29 ca d (fun zb _ _ d=>a7 (ak 10 d (oA 1 oM oM _ _ d.g) (fun _ _ d=>lL d [.v (qv 0)] (lA 8 29 ca d (fun Y _ _ d=>lA 9 29 ca d (fun y _ _ d=>lP 1 0 (qc ((1:Int):Rat)) d (fun _ d=>lP 0 0 (qc 0) d (fun _ d=>ag (ab d [.v (pB B),.o (iV s.op) 6 0 1] (be (aD ?_)))))))))))))))));cases W:((s.op:Int) == (3:Int))
 .
  have zH:=ah W;refine lB 15 W (lL d ae (ai (aD ?_)));cases V:((s.op:Int) == (4:Int))
  .
   have zI:=ah V;refine lB 19 V (lL d ae (ai (aD ?_)));cases S:((s.op:Int) == (5:Int))
   .
    have zJ:=ah S;refine lB 24 S (lL d ae (ai (aD ?_)));cases M:((s.op:Int) == (6:Int))
    .
     have zK:=ah M;refine lB 28 M (lL d ae (ai (aD ?_)));cases I:((s.op:Int) == (7:Int))
     .
      have zL:=ah I;refine lB 43 I (lL d ae (ai (aD ?_)));cases X:((s.op:Int) == (8:Int))
      .
       have zM:=ah X;refine lB 48 X (lL d ae (ai (aD ?_)));cases Z:((s.op:Int) == (9:Int))
       .
        have zN:=ah Z;refine lB 69 Z (lL d ae (ai (aD ?_)));cases H:((s.op:Int) == (10:Int))
        .
         have zP:=ah H;refine lB 75 H (lL d ae (ai (aD ?_)));cases F:((s.op:Int) == (11:Int))
         .
          have zQ:=ah F;refine lB 82 F (lL d ae (ai (cQ (aD ?_))));cases U:((s.op:Int) == (12:Int))
          .
           have zR:=ah U;refine lB 97 U (lL d ae (ai (kQ ?_)));cases zq:((s.op:Int) == (13:Int))
           .
            have zS:=ah zq;refine lB 98 zq (lL d ae (ai (cK (cQ ?_))));have l:=d;refine kT 2 [] [za,zb] mixed d ao (eO 0 111 [(0,0,5)] (qv 0) d (jW 1 112 [(0,0,5)] (qv 0) l d ?_ (hM:=fun p u=>by obtain rfl:=vl.1 u;exact fun k=>by rcases hP.1 k with e|k;exact bJ d.st (i:=0) (j:=3) kR kR kR e;rcases hP.1 k with e|k;exact bJ d.st (i:=0) (j:=2) kR kR kR e;cases k)));refine ce d (fun _ _ d=>tP 2 3 0 (qc 0) d (fun _ d=>?_) (hz:=a6 (Kf)));refine tP 3 2 0 (qc 0) d (fun _ d=>?_) (hz:=a6 (Kg _<|Kf));exact tN (kX (d.ret [(3,0,5),(2,0,5)] (.tuple #[qv 0,qv 0]) (by rw[show s.op=1 by omega];rfl)))
           have zS:=eq_of_beq zq;refine lB 98 zq (lL d ae (au (cQ (cQ (cR 8 [] mixed d ao ?_)))));refine eO 0 99 [(5,0,5)] (qv a) d (eO 1 100 [(4,0,5)] (qv b) d (eV 4 103 (pB B) (eO 5 104 [(6,0,1)] (iV s.op) d ?_)));have zA:((s.op:Int) == (12:Int))=false:=fl oM;have bn:=ah zA;refine eB 6 105 zA (aj 2 101 d (fun _ _ d=>pe a b (LQ.mono x oM) (LQ.mono L oM) _ _ d.g) (fun _ _ d=>?_));cases Q:(decide ((0:Int)<(dQ a b:Int)))
           .
            have zU:=oF Q;refine eB 3 102 Q (eV 7 106 qT (ce d (fun _ _ d=>tN (bU [(6,pB za),(7,pB zb),(8,pB Y),(9,pB y),(106,qT)] ?_))));refine bT (cQ ?_);have l:=d;refine kT 2 [] [za,zb] mixed d ao (eO 0 107 [(1,0,5)] (qv ((1:Int):Rat)) d (jW 1 108 [(0,0,5)] (qv 0) l d ?_ (hM:=fun p u=>by obtain rfl:=vl.1 u;exact fun k=>by rcases hP.1 k with e|k;exact bJ d.st (i:=0) (j:=3) kR kR kR e;rcases hP.1 k with e|k;exact bJ d.st (i:=0) (j:=2) kR kR kR e;cases k)));refine ce d (fun _ _ d=>tP 2 3 0 (qc ((1:Int):Rat)) d (fun _ d=>?_) (hz:=a6 (Kf)));refine tP 3 2 0 (qc 0) d (fun _ d=>?_) (hz:=a6 (Kg _<|Kf));exact tN (kX (d.ret [(3,0,5),(2,0,5)] (.tuple #[qv ((1:Int):Rat),qv 0]) (wq oM oM)))
           have zU:=oT Q;refine eB 3 102 Q (eV 7 106 qF (ce d (fun _ _ d=>tN (bU [(6,pB za),(7,pB zb),(8,pB Y),(9,pB y),(106,qF)] ?_))));refine dv (cK (cQ ?_));have l:=d;refine kT 2 [] [za,zb] mixed d ao (eO 0 109 [(0,0,5)] (qv 0) d (jW 1 110 [(1,0,5)] (qv ((1:Int):Rat)) l d ?_ (hM:=fun p u=>by obtain rfl:=vl.1 u;exact fun k=>by rcases hP.1 k with e|k;exact bJ d.st (i:=1) (j:=3) kR kR kR e;rcases hP.1 k with e|k;exact bJ d.st (i:=1) (j:=2) kR kR kR e;cases k)));refine ce d (fun _ _ d=>tP 2 3 0 (qc 0) d (fun _ d=>?_) (hz:=a6 (Kf)));refine tP 3 2 0 (qc ((1:Int):Rat)) d (fun _ d=>?_) (hz:=a6 (Kg _<|Kf));exact tN (kX (d.ret [(3,0,5),(2,0,5)] (.tuple #[qv 0,qv ((1:Int):Rat)]) (vx oM oM)))
          have zR:=eq_of_beq U;refine lB 97 U (lL d ae (au (cK (bT (cQ (cQ (cR 8 [] mixed d ao ?_)))))));refine eO 0 99 [(5,0,5)] (qv a) d (eO 1 100 [(4,0,5)] (qv b) d (eV 4 103 (pB B) (eO 5 104 [(6,0,1)] (iV s.op) d ?_)));have zB:((s.op:Int) == (12:Int))=true:=nJ oM;have bf:=eq_of_beq zB;refine eB 6 105 zB (aj 2 101 d (fun _ _ d=>pe a b (LQ.mono x oM) (LQ.mono L oM) _ _ d.g) (fun _ _ d=>?_));cases J:(decide ((0:Int)<(dQ a b:Int)))
          .
           have zW:=oF J;refine eB 3 102 J (eV 7 106 qF (ce d (fun _ _ d=>tN (bU [(6,pB za),(7,pB zb),(8,pB Y),(9,pB y),(106,qF)] ?_))));refine dv (cK (cQ ?_));have l:=d;refine kT 2 [] [za,zb] mixed d ao (eO 0 109 [(0,0,5)] (qv 0) d (jW 1 110 [(1,0,5)] (qv ((1:Int):Rat)) l d ?_ (hM:=fun p u=>by obtain rfl:=vl.1 u;exact fun k=>by rcases hP.1 k with e|k;exact bJ d.st (i:=1) (j:=3) kR kR kR e;rcases hP.1 k with e|k;exact bJ d.st (i:=1) (j:=2) kR kR kR e;cases k)));refine ce d (fun _ _ d=>tP 2 3 0 (qc 0) d (fun _ d=>?_) (hz:=a6 (Kf)));refine tP 3 2 0 (qc ((1:Int):Rat)) d (fun _ d=>?_) (hz:=a6 (Kg _<|Kf));exact tN (kX (d.ret [(3,0,5),(2,0,5)] (.tuple #[qv 0,qv ((1:Int):Rat)]) (vx oM oM)))
          have zW:=oT J;refine eB 3 102 J (eV 7 106 qT (ce d (fun _ _ d=>tN (bU [(6,pB za),(7,pB zb),(8,pB Y),(9,pB y),(106,qT)] ?_))));refine bT (cQ ?_);have l:=d;refine kT 2 [] [za,zb] mixed d ao (eO 0 107 [(1,0,5)] (qv ((1:Int):Rat)) d (jW 1 108 [(0,0,5)] (qv 0) l d ?_ (hM:=fun p u=>by obtain rfl:=vl.1 u;exact fun k=>by rcases hP.1 k with e|k;exact bJ d.st (i:=0) (j:=3) kR kR kR e;rcases hP.1 k with e|k;exact bJ d.st (i:=0) (j:=2) kR kR kR e;cases k)));refine ce d (fun _ _ d=>tP 2 3 0 (qc ((1:Int):Rat)) d (fun _ d=>?_) (hz:=a6 (Kf)));refine tP 3 2 0 (qc 0) d (fun _ d=>?_) (hz:=a6 (Kg _<|Kf));exact tN (kX (d.ret [(3,0,5),(2,0,5)] (.tuple #[qv ((1:Int):Rat),qv 0]) (wq oM oM)))
         have zQ:=eq_of_beq F;refine lB 82 F (lL d ae (au (cQ (cR 9 [] mixed d ao ?_))));refine eO 0 84 [(1,0,5)] (qv ((1:Int):Rat)) d (eO 1 85 [(1,0,5)] (qv ((1:Int):Rat)) d (eO 2 86 [(5,0,5)] (qv a) d ?_));have zD:LQ (K) (bQ a):=LQ.abs x;refine aj 3 87 d (fun _ _ d=>Fa a (LQ.mono x oM) _ _ d.g) (fun _ _ d=>?_);have zE:=LQ.add (LQ.lit (z:=1) kD) zD;refine aj 4 88 d (fun _ _ d=>mB ((1:Int):Rat) (bQ a) (LQ.mono (LQ.lit (z:=1) kD) oM) (LQ.mono zD oM) _ _ d.g d.f.1) (fun _ _ d=>?_);have zt:=LQ.div (LQ.lit (z:=1) kD) zE;refine aj 5 89 d (fun _ _ d=>nz ((1:Int):Rat) (((1:Int):Rat)+(bQ a)) (LQ.mono (LQ.lit (z:=1) kD) oM) (LQ.mono zE oM) (mh a) _ _ d.g d.f.1) (fun _ _ d=>eV 6 83 (.tuple #[qv (((1:Int):Rat)/(((1:Int):Rat)+(bQ a))),qT]) (eV 7 90 (qv (((1:Int):Rat)/(((1:Int):Rat)+(bQ a)))) (eV 8 91 qT (ce d (fun _ _ d=>tP 9 3 0 (qc (((1:Int):Rat)/(((1:Int):Rat)+(bQ a)))) d (fun _ d=>tN (bU [(6,pB za),(7,pB zb),(9,pB y)] ?_)))))));refine cQ ?_;have l:=d;refine kT 4 [] [za,zb] mixed d ao (eO 0 92 [(3,0,5)] (qv (((1:Int):Rat)/(((1:Int):Rat)+(bQ a)))) d (eO 1 93 [(3,0,5)] (qv (((1:Int):Rat)/(((1:Int):Rat)+(bQ a)))) d (jW 3 95 [(0,0,5)] (qv 0) l d ?_ (hM:=fun p u=>by obtain rfl:=vl.1 u;exact fun k=>by rcases hP.1 k with e|k;exact bJ d.st (i:=0) (j:=3) kR kR kR e;rcases hP.1 k with e|k;exact bJ d.st (i:=0) (j:=2) kR kR kR e;cases k))));have bw:=LQ.mul zt zt;refine aj 2 94 d (fun _ _ d=>iL (((1:Int):Rat)/(((1:Int):Rat)+(bQ a))) (((1:Int):Rat)/(((1:Int):Rat)+(bQ a))) (LQ.mono zt oM) (LQ.mono zt oM) _ _ d.g d.f.1) (fun _ _ d=>ce d (fun _ _ d=>tP 4 3 0 (qc ((((1:Int):Rat)/(((1:Int):Rat)+(bQ a)))*(((1:Int):Rat)/(((1:Int):Rat)+(bQ a))))) d (fun _ d=>?_) (hz:=a6 (Kf))));refine tP 5 2 0 (qc 0) d (fun _ d=>?_) (hz:=a6 (Kg _<|Kf));exact tN (kX (d.ret [(3,0,5),(2,0,5)] (.tuple #[qv ((((1:Int):Rat)/(((1:Int):Rat)+(bQ a)))*(((1:Int):Rat)/(((1:Int):Rat)+(bQ a)))),qv 0]) (by rw[show s.op=11 by omega];rfl)))
        have zP:=eq_of_beq H;refine lB 75 H (lL d ae (au (cQ ?_)));have l:=d;refine kT 5 [] [za,zb] mixed d ao (eO 0 76 [(5,0,5)] (qv a) d (jW 4 80 [(0,0,5)] (qv 0) l d ?_ (hM:=fun p u=>by obtain rfl:=vl.1 u;exact fun k=>by rcases hP.1 k with e|k;exact bJ d.st (i:=0) (j:=3) kR kR kR e;rcases hP.1 k with e|k;exact bJ d.st (i:=0) (j:=2) kR kR kR e;cases k)));refine aj 1 77 d (fun _ _ d=>en a (LQ.mono x oM) _ _ d.g) (fun _ _ d=>eV 2 78 (iV (max (a.num.sign:Int) (0:Int))) ?_ (hv:=fun _=>ba (n:=(if (0:Int)>(a.num.sign:Int) then (0:Int) else (a.num.sign:Int))) kR (by simp only[mc])));have bv:LQ (1) (((max (a.num.sign:Int) (0:Int):Int):Rat)):=LQ.int oM oM;refine aj 3 79 d (fun _ _ d=>oA (max (a.num.sign:Int) (0:Int)) oM oM _ _ d.g) (fun _ _ d=>ce d (fun _ _ d=>tP 5 3 0 (qc ((max (a.num.sign:Int) (0:Int):Int):Rat)) d (fun _ d=>?_) (hz:=a6 (Kf))));refine tP 6 2 0 (qc 0) d (fun _ d=>?_) (hz:=a6 (Kg _<|Kf));exact tN (kX (d.ret [(3,0,5),(2,0,5)] (.tuple #[qv ((max (a.num.sign:Int) (0:Int):Int):Rat),qv 0]) (by rw[show s.op=10 by omega];rfl)))
       have zN:=eq_of_beq Z;refine lB 69 Z (lL d ae (au (cQ ?_)));have l:=d;refine kT 4 [] [za,zb] mixed d ao (eO 0 70 [(5,0,5)] (qv a) d (jW 3 73 [(0,0,5)] (qv 0) l d ?_ (hM:=fun p u=>by obtain rfl:=vl.1 u;exact fun k=>by rcases hP.1 k with e|k;exact bJ d.st (i:=0) (j:=3) kR kR kR e;rcases hP.1 k with e|k;exact bJ d.st (i:=0) (j:=2) kR kR kR e;cases k)));refine aj 1 71 d (fun _ _ d=>en a (LQ.mono x oM) _ _ d.g) (fun _ _ d=>?_);have bl:LQ (1) (((a.num.sign:Int):Rat)):=LQ.int oM oM;refine aj 2 72 d (fun _ _ d=>oA a.num.sign oM oM _ _ d.g) (fun _ _ d=>ce d (fun _ _ d=>tP 4 3 0 (qc ((a.num.sign:Int):Rat)) d (fun _ d=>?_) (hz:=a6 (Kf))));refine tP 5 2 0 (qc 0) d (fun _ d=>?_) (hz:=a6 (Kg _<|Kf));exact tN (kX (d.ret [(3,0,5),(2,0,5)] (.tuple #[qv ((a.num.sign:Int):Rat),qv 0]) (by rw[show s.op=9 by omega];rfl)))
      have zM:=eq_of_beq X;refine lB 48 X (lL d ae (au (cQ (ab d [.v (qP B 3),.o (iV s.n) 6 3 1] ?_))));cases O:((s.n:Int) == (0:Int))
      .
       have zG:=ah O;refine lB 51 O (ai (cK (ab d [.o (qv a) 5 0 5,.v (qP B 3),.o (iV s.n) 6 3 1] (lI 58 (s.n-1) ?_))));refine ak 59 d (xR a (s.n-1) K hK x (by have:=hn oM;omega) (fun h0=>hok oM oM) _ _ d.g d.f.1) (fun _ _ d=>?_);have C:=Bp (n:=s.n-1) hK1 x (by have:=hn oM;omega);refine lL d [.c,.v (qv (dX a (s.n-1))),.v qT] (lP 3 0 (qc (dX a (s.n-1))) d (fun _ d=>ag ?_));have l:=d;refine kT 6 [] [za,zb] mixed d ao (eO 0 62 [(3,0,5)] (qv (dX a (s.n-1))) d (eV 1 63 (qP B 3) (eO 2 64 [(6,3,1)] (iV s.n) d (jW 5 67 [(0,0,5)] (qv 0) l d ?_ (hM:=fun p u=>by obtain rfl:=vl.1 u;exact fun k=>by rcases hP.1 k with e|k;exact bJ d.st (i:=0) (j:=3) kR kR kR e;rcases hP.1 k with e|k;exact bJ d.st (i:=0) (j:=2) kR kR kR e;cases k)))));have zv:LQ (1) (((s.n:Int):Rat)):=LQ.int oM oM;refine aj 3 65 d (fun _ _ d=>oA s.n oM oM _ _ d.g) (fun _ _ d=>?_);have bt:=LQ.mul C zv;refine aj 4 66 d (fun _ _ d=>iL (dX a (s.n-1)) ((s.n:Int):Rat) (LQ.mono C oM) (LQ.mono zv oM) _ _ d.g d.f.1) (fun _ _ d=>ce d (fun _ _ d=>tP 6 3 0 (qc ((dX a (s.n-1))*((s.n:Int):Rat))) d (fun _ d=>?_) (hz:=a6 (Kf))));refine tP 7 2 0 (qc 0) d (fun _ d=>?_) (hz:=a6 (Kg _<|Kf));refine tN (bU [(6,pB za),(7,pB zb),(9,pB y)] ?_);exact kX (d.ret [(3,0,5),(2,0,5)] (.tuple #[qv ((dX a (s.n-1))*((s.n:Int):Rat)),qv 0]) (by rw[show s.op=8 by omega];unfold j9 kL;rw[if_neg kD,if_neg kD,if_neg kD,if_neg kD,if_neg kD,if_pos rfl,if_neg (show ¬s.n=0 by omega)];rfl))
      have zG:=eq_of_beq O;refine lB 51 O (au (cQ ?_));have l:=d;refine kT 2 [] [za,zb] mixed d ao (eO 0 52 [(0,0,5)] (qv 0) d (jW 1 53 [(0,0,5)] (qv 0) l d ?_ (hM:=fun p u=>by obtain rfl:=vl.1 u;exact fun k=>by rcases hP.1 k with e|k;exact bJ d.st (i:=0) (j:=3) kR kR kR e;rcases hP.1 k with e|k;exact bJ d.st (i:=0) (j:=2) kR kR kR e;cases k)));refine ce d (fun _ _ d=>tP 2 3 0 (qc 0) d (fun _ d=>?_) (hz:=a6 (Kf)));refine tP 3 2 0 (qc 0) d (fun _ d=>?_) (hz:=a6 (Kg _<|Kf));exact tN (kX (d.ret [(3,0,5),(2,0,5)] (.tuple #[qv 0,qv 0]) (by rw[show s.op=8 by omega,show s.n=0 by omega];rfl)))
     have zL:=eq_of_beq I;refine lB 43 I (lL d ae (au (cQ ?_)));have l:=d;refine kT 3 [] [za,zb] mixed d ao (eO 0 44 [(1,0,5)] (qv ((1:Int):Rat)) d (jW 2 46 [(0,0,5)] (qv 0) l d ?_ (hM:=fun p u=>by obtain rfl:=vl.1 u;exact fun k=>by rcases hP.1 k with e|k;exact bJ d.st (i:=0) (j:=3) kR kR kR e;rcases hP.1 k with e|k;exact bJ d.st (i:=0) (j:=2) kR kR kR e;cases k)));have bm:LQ (1) (-((1:Int):Rat)):=LQ.neg (LQ.lit (z:=1) kD);refine aj 1 45 d (fun _ _ d=>uZ ((1:Int):Rat) (LQ.mono (LQ.lit (z:=1) kD) oM) _ _ d.g) (fun _ _ d=>ce d (fun _ _ d=>tP 3 3 0 (qc (-((1:Int):Rat))) d (fun _ d=>?_) (hz:=a6 (Kf))));refine tP 4 2 0 (qc 0) d (fun _ d=>?_) (hz:=a6 (Kg _<|Kf));exact tN (kX (d.ret [(3,0,5),(2,0,5)] (.tuple #[qv (-((1:Int):Rat)),qv 0]) (by rw[show s.op=7 by omega];rfl)))
    have zK:=eq_of_beq M;refine lB 28 M (lL d ae (au (ab d [.o (qv ((1:Int):Rat)) 1 0 5,.o (qv b) 4 0 5] ?_)));have zd:=LQ.div (LQ.lit (z:=1) kD) L;refine ak 32 d (nz ((1:Int):Rat) b (LQ.mono (LQ.lit (z:=1) kD) oM) (LQ.mono L oM) (rK (D oM)) _ _ d.g d.f.1) (fun _ _ d=>lL d [.c,.v (qv (((1:Int):Rat)/b)),.v qT] (lP 3 0 (qc (((1:Int):Rat)/b)) d (fun _ d=>ag ?_)));have l:=d;refine kT 7 [] [za,zb] mixed d ao (eO 0 35 [(3,0,5)] (qv (((1:Int):Rat)/b)) d (jW 1 36 [(5,0,5)] (qv a) l d ?_ (hM:=fun p u=>by obtain rfl:=vl.1 u;exact fun k=>by rcases hP.1 k with e|k;exact bJ d.st (i:=5) (j:=3) kR kR kR e;rcases hP.1 k with e|k;exact bJ d.st (i:=5) (j:=2) kR kR kR e;cases k)));refine eO 2 37 [(3,0,5)] (qv (((1:Int):Rat)/b)) d (eO 4 39 [(3,0,5)] (qv (((1:Int):Rat)/b)) d ?_);have zw:=LQ.mul x zd;refine aj 3 38 d (fun _ _ d=>iL a (((1:Int):Rat)/b) (LQ.mono x oM) (LQ.mono zd oM) _ _ d.g d.f.1) (fun _ _ d=>?_);have zx:=LQ.mul zw zd;refine aj 5 40 d (fun _ _ d=>iL (a*(((1:Int):Rat)/b)) (((1:Int):Rat)/b) (LQ.mono zw oM) (LQ.mono zd oM) _ _ d.g d.f.1) (fun _ _ d=>?_);have bb:LQ ((K+(1+K))+(1+K)) (-((a*(((1:Int):Rat)/b))*(((1:Int):Rat)/b))):=LQ.neg zx;refine aj 6 41 d (fun _ _ d=>uZ ((a*(((1:Int):Rat)/b))*(((1:Int):Rat)/b)) (LQ.mono zx oM) _ _ d.g) (fun _ _ d=>ce d (fun _ _ d=>tP 7 3 0 (qc (((1:Int):Rat)/b)) d (fun _ d=>?_) (hz:=a6 (Kf))));refine tP 8 2 0 (qc (-((a*(((1:Int):Rat)/b))*(((1:Int):Rat)/b)))) d (fun _ d=>?_) (hz:=a6 (Kg _<|Kf));exact tN (kX (d.ret [(3,0,5),(2,0,5)] (.tuple #[qv (((1:Int):Rat)/b),qv (-((a*(((1:Int):Rat)/b))*(((1:Int):Rat)/b)))]) (by rw[show s.op=6 by omega];rfl)))
   have zJ:=eq_of_beq S;refine lB 24 S (lL d ae (au (cQ ?_)));have l:=d;refine kT 2 [] [za,zb] mixed d ao (eO 0 25 [(4,0,5)] (qv b) d (jW 1 26 [(5,0,5)] (qv a) l d ?_ (hM:=fun p u=>by obtain rfl:=vl.1 u;exact fun k=>by rcases hP.1 k with e|k;exact bJ d.st (i:=5) (j:=3) kR kR kR e;rcases hP.1 k with e|k;exact bJ d.st (i:=5) (j:=2) kR kR kR e;cases k)));refine ce d (fun _ _ d=>tP 2 3 0 (qc b) d (fun _ d=>?_) (hz:=a6 (Kf)));refine tP 3 2 0 (qc a) d (fun _ d=>?_) (hz:=a6 (Kg _<|Kf));exact tN (kX (d.ret [(3,0,5),(2,0,5)] (.tuple #[qv b,qv a]) (by rw[show s.op=5 by omega];rfl)))
  have zI:=eq_of_beq V;refine lB 19 V (lL d ae (au (cQ ?_)));have l:=d;refine kT 3 [] [za,zb] mixed d ao (eO 0 20 [(1,0,5)] (qv ((1:Int):Rat)) d (jW 1 21 [(1,0,5)] (qv ((1:Int):Rat)) l d ?_ (hM:=fun p u=>by obtain rfl:=vl.1 u;exact fun k=>by rcases hP.1 k with e|k;exact bJ d.st (i:=1) (j:=3) kR kR kR e;rcases hP.1 k with e|k;exact bJ d.st (i:=1) (j:=2) kR kR kR e;cases k)));have bq:LQ (1) (-((1:Int):Rat)):=LQ.neg (LQ.lit (z:=1) kD);refine aj 2 22 d (fun _ _ d=>uZ ((1:Int):Rat) (LQ.mono (LQ.lit (z:=1) kD) oM) _ _ d.g) (fun _ _ d=>ce d (fun _ _ d=>tP 3 3 0 (qc ((1:Int):Rat)) d (fun _ d=>?_) (hz:=a6 (Kf))));refine tP 4 2 0 (qc (-((1:Int):Rat))) d (fun _ d=>?_) (hz:=a6 (Kg _<|Kf));exact tN (kX (d.ret [(3,0,5),(2,0,5)] (.tuple #[qv ((1:Int):Rat),qv (-((1:Int):Rat))]) (by rw[show s.op=4 by omega];rfl)))
 have zH:=eq_of_beq W;refine lB 15 W (lL d ae (au (cQ ?_)));have l:=d;refine kT 2 [] [za,zb] mixed d ao (eO 0 16 [(1,0,5)] (qv ((1:Int):Rat)) d (jW 1 17 [(1,0,5)] (qv ((1:Int):Rat)) l d ?_ (hM:=fun p u=>by obtain rfl:=vl.1 u;exact fun k=>by rcases hP.1 k with e|k;exact bJ d.st (i:=1) (j:=3) kR kR kR e;rcases hP.1 k with e|k;exact bJ d.st (i:=1) (j:=2) kR kR kR e;cases k)));refine ce d (fun _ _ d=>tP 2 3 0 (qc ((1:Int):Rat)) d (fun _ d=>?_) (hz:=a6 (Kf)));refine tP 3 2 0 (qc ((1:Int):Rat)) d (fun _ d=>?_) (hz:=a6 (Kg _<|Kf));exact tN (kX (d.ret [(3,0,5),(2,0,5)] (.tuple #[qv ((1:Int):Rat),qv ((1:Int):Rat)]) (by rw[show s.op=3 by omega];rfl)))
theorem xU (s:Stp)(a b:Rat)(K:Nat)(l:14*K+20<=100000000)(p:LQ K a)(k:LQ K b)(y:LQ 1 s.q)(d:1<=K)(e:1<=s.op/\s.op<=13/\s.op≠2)(o:s.op=8 -> -12<=s.n/\s.n<=12)(c:s.op=6->b≠0)(f:s.op=8->s.n<0->a≠0)(w:World)(h:Hp)(g:G w h)(x:Tab h):CR 34 #[HY s,qv a,qv b] w h (fun v _=>∃ i j,v=.tuple #[qv i,qv j]/\i=j9 s.op s.n a b/\j=kL s.op a b):=by
 refine (BV s a b K l p k y d e o c f w h g x).mono ?_;rintro _ w' ⟨_,h',rfl,u,rfl⟩;exact ⟨_,h',rfl,u,_,_,rfl,rfl,rfl⟩
theorem d8 (op:Int)(w:World)(h:Hp)(g:G w h):CV 28 #[iV op] w h (iV (aK op)):=by
 have a:=sS g;refine go Tryz.func28 [(0,iV op)] rfl (ab a ae (ag (ab a ae (be (cQ (aD ?_))))));cases e:((op:Int) == (1:Int))
 .
  have o:=ah e;refine lB 5 e (lL a ae (ai (kQ ?_)));cases l:((op:Int) == (2:Int))
  .
   have B:=ah l;refine lB 6 l (lL a ae (ai (cQ (aD ?_))));cases b:((op:Int) == (7:Int))
   .
    have C:=ah b;refine lB 8 b (lL a ae (ai (aD ?_)));cases f:((op:Int) == (8:Int))
    .
     have p:=ah f;refine lB 9 f (lL a ae (ai (aD ?_)));cases d:((op:Int) == (9:Int))
     .
      have z:=ah d;refine lB 10 d (lL a ae (ai (aD ?_)));cases j:((op:Int) == (10:Int))
      .
       have u:=ah j;refine lB 11 j (lL a ae (ai (kQ ?_)));cases c:((op:Int) == (11:Int))
       .
        have y:=ah c;refine lB 12 c (lL a ae (ai (cQ (aD ?_))));cases k:((op:Int) == (3:Int))
        .
         have D:=ah k;refine lB 14 k (lL a ae (ai (aD ?_)));cases i:((op:Int) == (4:Int))
         .
          have x:=ah i;refine lB 15 i (lL a ae (ai (aD ?_)));cases za:((op:Int) == (5:Int))
          .
           have L:=ah za;refine lB 16 za (lL a ae (ai (aD ?_)));cases zb:((op:Int) == (6:Int))
           .
            have K:=ah zb;refine lB 17 zb (lL a ae (ai (aD ?_)));cases F:((op:Int) == (12:Int))
            .
             have J:=ah F;refine lB 18 F (lL a ae (ai (kQ ?_)));cases H:((op:Int) == (13:Int))
             .
              have I:=ah H;exact lB 19 H (lL a ae (ai (cK (ab a ae (af a [] (iV (-1)) (congrArg (Value.int .i64) (by have:=aA op;omega)))))))
             have I:=eq_of_beq H;exact lB 19 H (lL a ae (au (ab a ae (af a [] (iV 2) (congrArg (Value.int .i64) (by have:=aA op;omega))))))
            have J:=eq_of_beq F;exact lB 18 F (lL a ae (au (cK (bT (ab a ae (af a [] (iV 2) (congrArg (Value.int .i64) (by have:=aA op;omega))))))))
           have K:=eq_of_beq zb;exact lB 17 zb (lL a ae (au (cK (bT (ab a ae (af a [] (iV 2) (congrArg (Value.int .i64) (by have:=aA op;omega))))))))
          have L:=eq_of_beq za;exact lB 16 za (lL a ae (au (cK (bT (ab a ae (af a [] (iV 2) (congrArg (Value.int .i64) (by have:=aA op;omega))))))))
         have x:=eq_of_beq i;exact lB 15 i (lL a ae (au (cK (bT (ab a ae (af a [] (iV 2) (congrArg (Value.int .i64) (by have:=aA op;omega))))))))
        have D:=eq_of_beq k;exact lB 14 k (lL a ae (au (cK (bT (ab a ae (af a [] (iV 2) (congrArg (Value.int .i64) (by have:=aA op;omega))))))))
       have y:=eq_of_beq c;exact lB 12 c (lL a ae (au (ab a ae (af a [] (iV 1) (congrArg (Value.int .i64) (by have:=aA op;omega))))))
      have u:=eq_of_beq j;exact lB 11 j (lL a ae (au (cK (bT (ab a ae (af a [] (iV 1) (congrArg (Value.int .i64) (by have:=aA op;omega))))))))
     have z:=eq_of_beq d;exact lB 10 d (lL a ae (au (cK (bT (ab a ae (af a [] (iV 1) (congrArg (Value.int .i64) (by have:=aA op;omega))))))))
    have p:=eq_of_beq f;exact lB 9 f (lL a ae (au (cK (bT (ab a ae (af a [] (iV 1) (congrArg (Value.int .i64) (by have:=aA op;omega))))))))
   have C:=eq_of_beq b;exact lB 8 b (lL a ae (au (cK (bT (ab a ae (af a [] (iV 1) (congrArg (Value.int .i64) (by have:=aA op;omega))))))))
  have B:=eq_of_beq l;exact lB 6 l (lL a ae (au (ab a ae (af a [] (iV 0) (congrArg (Value.int .i64) (by have:=aA op;omega))))))
 have o:=eq_of_beq e;exact lB 5 e (lL a ae (au (cK (bT (ab a ae (af a [] (iV 0) (congrArg (Value.int .i64) (by have:=aA op;omega))))))))
theorem j7 (f:Int)(i rb:Nat)(w:World)(h:Hp)(g:G w h)(l:Own w rb 3 [nV i])(p:h[rb]?=some bc):Calls Tryz.prog 109 #[iV f,.bool true,pB rb] w (iw rb w h fun v w' _=>v=.bool (decide (0<=(f:Int)/\(f:Int)<(i:Nat)))/\Own w' rb 3 [nV i]):=by
 have e:UpM [rb] w h w h:=UpM.refl g;obtain ⟨wz,hz,a⟩:=SS.at_ g l p;refine go Tryz.func109 [(0,iV f),(1,qT),(2,pB rb)] rfl (ab a ae (ag (ab a ae (au (ab a ae ?_)))));cases b:(decide ((0:Int)<=(f:Int)))
 .
  have j:=oF b;refine lB 8 b (lL a ae (lG 10 ?_));exact lG 11 (lG 12 (lL a [.v qF,.c] (lN (kX (a.retM e [] qF ⟨congrArg Value.bool (decide_eq_false oM).symm,a.own 0⟩)))))
 have j:=oT b;refine lB 8 b (lL a [.c,.c,.o (nV i) 0 0 1] ?_);cases d:(decide ((f:Int)<(i:Int)))
 .
  have k:=oF d;exact lB 12 d (lL a [.v qF,.c] (lN (kX (a.retM e [] qF ⟨congrArg Value.bool (decide_eq_false oM).symm,a.own 0⟩))))
 have k:=oT d;exact lB 12 d (lL a [.v qT,.c] (lN (kX (a.retM e [] qT ⟨congrArg Value.bool (decide_eq_true oM).symm,a.own 0⟩))))
theorem gF (e:Int)(i rb:Nat)(w:World)(h:Hp)(g:G w h)(f:Own w rb 3 [nV i])(j:h[rb]?=some bc):Calls Tryz.prog 109 #[iV e,.bool false,pB rb] w (iw rb w h fun v w' _=>v=.bool (decide ((e:Int)=0))/\Own w' rb 3 [nV i]):=by
 have d:UpM [rb] w h w h:=UpM.refl g;obtain ⟨wz,hz,a⟩:=SS.at_ g f j;refine go Tryz.func109 [(0,iV e),(1,qF),(2,pB rb)] rfl (ab a ae (ag (ab a ae (ai (cK (ab a ae ?_))))));cases b:((e:Int) == (0:Int))
 .
  have c:=ah b;exact lB 15 b (lL a ae (lN (kX (a.retM d [] qF ⟨congrArg Value.bool (decide_eq_false oM).symm,a.own 0⟩))))
 have c:=eq_of_beq b;exact lB 15 b (lL a ae (lN (kX (a.retM d [] qT ⟨congrArg Value.bool (decide_eq_true oM).symm,a.own 0⟩))))
theorem BW (inp:Int)(A:Z9)(c:Nat)(l:List Stp)(O:Z9)(d:Nat)(os:List Int)(i:Nat)(hik:i<l.length)(hl:l.length<=65536)(hq:LQ 1 (l.getD i aa).q)(w:World)(h:Hp)(g:G w h)(hA:SlO 9 dw aa h A l)(hO:Si O os h):CV 68 #[.agg #[iV inp,.slice A ((l).length) c,.slice O ((os).length) d],nV i] w h (.bool (decide (Formed inp i (l.getD i aa)))):=by
 have e:=(((sS g).aS hA).aS hO);have hsg:(l.getD i aa).q.num.sign=0↔(l.getD i aa).q.num=0:=K5;refine go Tryz.func68 [(0,.agg #[iV inp,qS A ((l).length) c,qS O ((os).length) d]),(1,nV i)] rfl (aD (lA 2 50 ([iV inp,qS A ((l).length) c,qS O ((os).length) d]) e (fun z w2 h3 e=>lA 3 3 ([nV i]) e (fun y w5 h6 e=>lL e ae (a7 (lL e [.v (qP z 1),.o (qS A ((l).length) c) 1 1 1,.o (nV i) 0 0 1] (lX 11 A ((l).length) c 9 (i:Nat) i ((e.f.2.1).ok oM) ?_)))))));refine lH 12 (sX (l.getD i aa)) e ((e.f.2.1).el i oM) (lA 5 86 ([iV 0,iV 0,iV 0,iV 0,qF,uV 0,eS,uV 0,eS]) e (fun u w8 h9 e=>lP 0 0 (sC (l.getD i aa)) e (fun _ e=>a7 (lL e [.v (pB u),.o (iV ((l.getD i aa).op)) 0 0 1] (ak 15 e (d8 (l.getD i aa).op _ _ e.g) (fun _ _ e=>?_))))));have hac:=aA (l.getD i aa).op;refine lL e ae (ag (ab e ae ?_));cases za:(decide ((aK (l.getD i aa).op:Int)<(0:Int)))
 .
  have zA:=oF za;refine lB 17 za ?_;refine ai (cK (ab e [.v (.func (.func 109) #[] #[pB y]),.c] (ag (CG.join (fun Γ w_=>∃ (B:Bool)(j:Hp),Γ=[(2,pB z),(4,qF),(5,pB u),(45,.bool B)]/\SS w h w_ j [⟨u,86,sC (l.getD i aa)⟩,⟨y,3,[nV i]⟩,⟨z,50,[iV inp,qS A ((l).length) c,qS O ((os).length) d]⟩] [] [Si O os,fun j=>SlO 9 dw aa j A l]/\(B=true->¬(((0<aK (l.getD i aa).op->0<=(l.getD i aa).a/\(l.getD i aa).a<i)/\(¬0<aK (l.getD i aa).op->(l.getD i aa).a=0))/\((1<aK (l.getD i aa).op->0<=(l.getD i aa).b/\(l.getD i aa).b<i)/\(¬1<aK (l.getD i aa).op->(l.getD i aa).b=0))/\((l.getD i aa).op≠1->(l.getD i aa).q.num=0)))/\(B=false->(((0<aK (l.getD i aa).op->0<=(l.getD i aa).a/\(l.getD i aa).a<i)/\(¬0<aK (l.getD i aa).op->(l.getD i aa).a=0))/\((1<aK (l.getD i aa).op->0<=(l.getD i aa).b/\(l.getD i aa).b<i)/\(¬1<aK (l.getD i aa).op->(l.getD i aa).b=0))/\((l.getD i aa).op≠1->(l.getD i aa).q.num=0)))) ?_ ?_))))
  .
   refine kQ (lL e [.c,.v (qP u 1),.o (iV ((l.getD i aa).a)) 0 1 1,.c] ?_);cases zb:(decide ((0:Int)<(aK (l.getD i aa).op:Int)))
   .
    have zB:=oF zb;refine lB 23 zb (jg 24 (gF ((l.getD i aa).a) i y _ _ e.g (e.own 1) (e.jk 1)) ?_);rintro _ _ yl u18 ⟨rfl,D⟩;replace e:=(e.stepM 1 u18 D).to [⟨u,86,sC (l.getD i aa)⟩,⟨y,3,[nV i]⟩,⟨z,50,[iV inp,qS A ((l).length) c,qS O ((os).length) d]⟩] [];cases zt:(decide (((l.getD i aa).a:Int)=0))
    .
     have zD:=oF zt;refine lL e [.v qT,.c] (lG 27 ?_);refine lG 28 (lG 29 (lG 30 (lG 31 (lG 32 (lG 33 (lL e [.v qT,.c] (lG 36 ?_)))))));refine lG 37 (lG 38 (lG 39 (lG 40 (lG 41 (lG 42 (lG 43 (lG 44 (lL e [.v qT] (lD ?_)))))))));intro x k;exact ⟨_,⟨true,yl,rfl,e.to _ _,(fun _=>by omega),(fun j=>absurd j kD)⟩,k.to _ kR⟩
    have zD:=oT zt;refine lL e [.v qF,.c,.c,.v (qP u 2),.o (iV ((l.getD i aa).b)) 0 2 1,.c] ?_;have ⟨yj,bb⟩:=dF (p:=(1:Int)<(aK (l.getD i aa).op:Int)) oM;refine lB 31 yj (jg 32 (gF ((l.getD i aa).b) i y _ _ e.g (e.own 1) (e.jk 1)) ?_);rintro _ _ yc u26 ⟨rfl,C⟩;replace e:=(e.stepM 1 u26 C).to [⟨u,86,sC (l.getD i aa)⟩,⟨y,3,[nV i]⟩,⟨z,50,[iV inp,qS A ((l).length) c,qS O ((os).length) d]⟩] [];cases zu:(decide (((l.getD i aa).b:Int)=0))
    .
     have zE:=oF zu;refine lL e [.v qT,.v qT,.c] (lG 36 ?_);refine lG 37 (lG 38 (lG 39 (lG 40 (lG 41 (lG 42 (lG 43 (lG 44 (lL e [.v qT] (lD ?_)))))))));intro x k;exact ⟨_,⟨true,yc,rfl,e.to _ _,(fun _=>by omega),(fun j=>absurd j kD)⟩,k.to _ kR⟩
    have zE:=oT zu;refine lL e [.v qF,.v qF,.c,.v (pB u),.o (iV ((l.getD i aa).op)) 0 0 1] ?_;cases S:(((l.getD i aa).op:Int) != (1:Int))
    .
     have zG:=aJ S;refine lB 38 S (lL e ae (lG 40 ?_));refine lG 41 (lG 42 (lG 43 (lL e [.v qF,.v qF] (lD ?_))));intro x k;exact ⟨_,⟨false,yc,rfl,e.to _ _,(fun j=>absurd j kD),(fun _=>by omega)⟩,k.to _ kR⟩
    have zG:=aU S;refine lB 38 S (lL e [.c,.v (qP u 4),.o (qv ((l.getD i aa).q)) 0 4 5] (ak 42 e (en (l.getD i aa).q (hq.mono oM) _ _ e.g) (fun _ yd e=>?_)));cases zd:(((l.getD i aa).q.num.sign:Int) != (0:Int))
    .
     have zH:=aJ zd;refine lB 43 zd (lL e [.v qF,.v qF] (lD ?_));intro x k;exact ⟨_,⟨false,yd,rfl,e.to _ _,(fun j=>absurd j kD),(fun _=>by omega)⟩,k.to _ kR⟩
    have zH:=aU zd;refine lB 43 zd (lL e [.v qT,.v qT] (lD ?_));intro x k;exact ⟨_,⟨true,yd,rfl,e.to _ _,(fun _=>by omega),(fun j=>absurd j kD)⟩,k.to _ kR⟩
   have zB:=oT zb;refine lB 23 zb (jg 24 (j7 ((l.getD i aa).a) i y _ _ e.g (e.own 1) (e.jk 1)) ?_);rintro _ _ ym u43 ⟨rfl,H⟩;replace e:=(e.stepM 1 u43 H).to [⟨u,86,sC (l.getD i aa)⟩,⟨y,3,[nV i]⟩,⟨z,50,[iV inp,qS A ((l).length) c,qS O ((os).length) d]⟩] [];cases zv:(decide (0<=((l.getD i aa).a:Int)/\((l.getD i aa).a:Int)<(i:Nat)))
   .
    have zI:=oF zv;refine lL e [.v qT,.c] (lG 27 ?_);refine lG 28 (lG 29 (lG 30 (lG 31 (lG 32 (lG 33 (lL e [.v qT,.c] (lG 36 ?_)))))));refine lG 37 (lG 38 (lG 39 (lG 40 (lG 41 (lG 42 (lG 43 (lG 44 (lL e [.v qT] (lD ?_)))))))));intro x k;exact ⟨_,⟨true,ym,rfl,e.to _ _,(fun _=>by omega),(fun j=>absurd j kD)⟩,k.to _ kR⟩
   have zI:=oT zv;refine lL e [.v qF,.c,.c,.v (qP u 2),.o (iV ((l.getD i aa).b)) 0 2 1,.c] ?_;cases V:(decide ((1:Int)<(aK (l.getD i aa).op:Int)))
   .
    have zJ:=oF V;refine lB 31 V (jg 32 (gF ((l.getD i aa).b) i y _ _ e.g (e.own 1) (e.jk 1)) ?_);rintro _ _ ye u51 ⟨rfl,I⟩;replace e:=(e.stepM 1 u51 I).to [⟨u,86,sC (l.getD i aa)⟩,⟨y,3,[nV i]⟩,⟨z,50,[iV inp,qS A ((l).length) c,qS O ((os).length) d]⟩] [];cases zw:(decide (((l.getD i aa).b:Int)=0))
    .
     have zK:=oF zw;refine lL e [.v qT,.v qT,.c] (lG 36 ?_);refine lG 37 (lG 38 (lG 39 (lG 40 (lG 41 (lG 42 (lG 43 (lG 44 (lL e [.v qT] (lD ?_)))))))));intro x k;exact ⟨_,⟨true,ye,rfl,e.to _ _,(fun _=>by omega),(fun j=>absurd j kD)⟩,k.to _ kR⟩
    have zK:=oT zw;refine lL e [.v qF,.v qF,.c,.v (pB u),.o (iV ((l.getD i aa).op)) 0 0 1] ?_;cases Z:(((l.getD i aa).op:Int) != (1:Int))
    .
     have zL:=aJ Z;refine lB 38 Z (lL e ae (lG 40 ?_));refine lG 41 (lG 42 (lG 43 (lL e [.v qF,.v qF] (lD ?_))));intro x k;exact ⟨_,⟨false,ye,rfl,e.to _ _,(fun j=>absurd j kD),(fun _=>by omega)⟩,k.to _ kR⟩
    have zL:=aU Z;refine lB 38 Z (lL e [.c,.v (qP u 4),.o (qv ((l.getD i aa).q)) 0 4 5] (ak 42 e (en (l.getD i aa).q (hq.mono oM) _ _ e.g) (fun _ yf e=>?_)));cases Y:(((l.getD i aa).q.num.sign:Int) != (0:Int))
    .
     have zM:=aJ Y;refine lB 43 Y (lL e [.v qF,.v qF] (lD ?_));intro x k;exact ⟨_,⟨false,yf,rfl,e.to _ _,(fun j=>absurd j kD),(fun _=>by omega)⟩,k.to _ kR⟩
    have zM:=aU Y;refine lB 43 Y (lL e [.v qT,.v qT] (lD ?_));intro x k;exact ⟨_,⟨true,yf,rfl,e.to _ _,(fun _=>by omega),(fun j=>absurd j kD)⟩,k.to _ kR⟩
   have zJ:=oT V;refine lB 31 V (jg 32 (j7 ((l.getD i aa).b) i y _ _ e.g (e.own 1) (e.jk 1)) ?_);rintro _ _ yg u68 ⟨rfl,F⟩;replace e:=(e.stepM 1 u68 F).to [⟨u,86,sC (l.getD i aa)⟩,⟨y,3,[nV i]⟩,⟨z,50,[iV inp,qS A ((l).length) c,qS O ((os).length) d]⟩] [];cases zx:(decide (0<=((l.getD i aa).b:Int)/\((l.getD i aa).b:Int)<(i:Nat)))
   .
    have zN:=oF zx;refine lL e [.v qT,.v qT,.c] (lG 36 ?_);refine lG 37 (lG 38 (lG 39 (lG 40 (lG 41 (lG 42 (lG 43 (lG 44 (lL e [.v qT] (lD ?_)))))))));intro x k;exact ⟨_,⟨true,yg,rfl,e.to _ _,(fun _=>by omega),(fun j=>absurd j kD)⟩,k.to _ kR⟩
   have zN:=oT zx;refine lL e [.v qF,.v qF,.c,.v (pB u),.o (iV ((l.getD i aa).op)) 0 0 1] ?_;cases W:(((l.getD i aa).op:Int) != (1:Int))
   .
    have zP:=aJ W;refine lB 38 W (lL e ae (lG 40 ?_));refine lG 41 (lG 42 (lG 43 (lL e [.v qF,.v qF] (lD ?_))));intro x k;exact ⟨_,⟨false,yg,rfl,e.to _ _,(fun j=>absurd j kD),(fun _=>by omega)⟩,k.to _ kR⟩
   have zP:=aU W;refine lB 38 W (lL e [.c,.v (qP u 4),.o (qv ((l.getD i aa).q)) 0 4 5] (ak 42 e (en (l.getD i aa).q (hq.mono oM) _ _ e.g) (fun _ yi e=>?_)));cases Q:(((l.getD i aa).q.num.sign:Int) != (0:Int))
   .
    have zQ:=aJ Q;refine lB 43 Q (lL e [.v qF,.v qF] (lD ?_));intro x k;exact ⟨_,⟨false,yi,rfl,e.to _ _,(fun j=>absurd j kD),(fun _=>by omega)⟩,k.to _ kR⟩
   have zQ:=aU Q;refine lB 43 Q (lL e [.v qT,.v qT] (lD ?_));intro x k;exact ⟨_,⟨true,yi,rfl,e.to _ _,(fun _=>by omega),(fun j=>absurd j kD)⟩,k.to _ kR⟩
  rintro _ _ ⟨B,_,rfl,e,yk,J⟩;cases M:(B)
  .
   try rw[M] at e
   try rw[M]
   refine dv (cK (cQ (aD ?_)));have yn:=J aM;refine lL e [.v (pB u),.o (iV ((l.getD i aa).op)) 0 0 1] (be (aD ?_));cases zl:(((l.getD i aa).op:Int) == (2:Int))
   .
    have zR:=ah zl;refine lB 49 zl (lL e ae (ai (aD ?_)));cases zm:(((l.getD i aa).op:Int) == (8:Int))
    .
     have zS:=ah zm;refine lB 61 zm (lL e ae (ai (cK (ab e [.v (qP u 3),.o (iV ((l.getD i aa).n)) 0 3 1] ?_))));cases L:(((l.getD i aa).n:Int) == (0:Int))
     .
      have zU:=ah L;exact lB 72 L (lL e ae (af e [] qF (congrArg Value.bool (decide_eq_false (by unfold Formed dS;omega)).symm)))
     have zU:=eq_of_beq L;exact lB 72 L (lL e ae (af e [] qT (congrArg Value.bool (decide_eq_true (by unfold Formed dS;omega)).symm)))
    have zS:=eq_of_beq zm;refine lB 61 zm (lL e ae (au (ab e [.v (qP u 3),.o (iV ((l.getD i aa).n)) 0 3 1] ?_)));cases K:(decide ((-12:Int)<=((l.getD i aa).n:Int)))
    .
     have zW:=oF K;refine lB 64 K (lL e ae (lG 66 ?_));exact lG 67 (lG 68 (lL e [.v qF,.c] (af e [] qF (congrArg Value.bool (decide_eq_false (by unfold Formed dS;omega)).symm))))
    have zW:=oT K;refine lB 64 K (lL e [.c,.v (qP u 3),.o (iV ((l.getD i aa).n)) 0 3 1] ?_);cases X:(decide (((l.getD i aa).n:Int)<=(12:Int)))
    .
     have zX:=oF X;exact lB 68 X (lL e [.v qF,.c] (af e [] qF (congrArg Value.bool (decide_eq_false (by unfold Formed dS;omega)).symm)))
    have zX:=oT X;exact lB 68 X (lL e [.v qT,.c] (af e [] qT (congrArg Value.bool (decide_eq_true (by unfold Formed dS;omega)).symm)))
   have zR:=eq_of_beq zl;refine lB 49 zl (lL e ae (au (ab e [.v (qP u 3),.o (iV ((l.getD i aa).n)) 0 3 1] ?_)));cases zq:(decide ((0:Int)<=((l.getD i aa).n:Int)))
   .
    have ya:=oF zq;refine lB 52 zq (lL e ae (lG 54 ?_));exact lG 55 (lG 56 (lG 57 (lG 58 (lL e [.v qF,.c] (af e [] qF (congrArg Value.bool (decide_eq_false (by unfold Formed dS;omega)).symm))))))
   have ya:=oT zq;refine lB 52 zq (lL e [.c,.v (qP u 3),.o (iV ((l.getD i aa).n)) 0 3 1,.v (pB z),.o (iV inp) 2 0 1] ?_);cases U:(decide (((l.getD i aa).n:Int)<(inp:Int)))
   .
    have yb:=oF U;exact lB 58 U (lL e [.v qF,.c] (af e [] qF (congrArg Value.bool (decide_eq_false (by unfold Formed dS;omega)).symm)))
   have yb:=oT U;exact lB 58 U (lL e [.v qT,.c] (af e [] qT (congrArg Value.bool (decide_eq_true (by unfold Formed dS;omega)).symm)))
  try rw[M] at e
  try rw[M]
  refine bT (aD ?_);have yn:=yk aM;exact lL e ae (af e [] qF (congrArg Value.bool (decide_eq_false (by unfold Formed dS;omega)).symm))
 have zA:=oT za;exact lB 17 za (au (ab e ae (af e [] qF (congrArg Value.bool (decide_eq_false (by unfold Formed dS;omega)).symm))))
theorem Bj (s:Stp)(V:Z9)(n c:Nat)(hv:List Int)(Q:hv.length=n)(k:Nat)(inp:Int)(C:Formed inp k s)(B:Wts hv k)(hk:k<=hv.length)(w:World)(h:Hp)(g:G w h)(D:Si V hv h):CV 69 #[sX s,.slice V n c] w h (iV (bB s hv)):=by
 have d:=((sS g).aS D);have K:=B.weight C;have H:=B.pow C;obtain ⟨O,f1,f2,f3,f4,f5,M⟩:=C
 unfold dS at f1 f2
 have I:=aA s.op;have F:=fun h0=>B s.a.toNat h0
 have J:=fun h0=>B s.b.toNat h0
 refine go Tryz.func69 [(0,sX s),(1,qS V n c)] rfl (aD (lA 2 86 (sC s) d (fun i w2 U d=>lL d ae (ag (ab d [.v (pB i),.o (iV s.op) 0 0 1] (ak 7 d (d8 s.op _ _ d.g) (fun S L d=>be (aD ?_))))))));cases l:((aK s.op:Int) == (0:Int))
 .
  have u:=ah l;refine lB 9 l (lL d ae (ai (aD ?_)));cases e:((aK s.op:Int) == (2:Int))
  .
   have y:=ah e;refine lB 11 e (lL d ae (ai (cK (cQ (ab d [.v (pB i),.o (iV s.op) 0 0 1] (be (aD ?_)))))));cases p:((s.op:Int) == (11:Int))
   .
    have z:=ah p;refine lB 26 p (lL d ae (ai (aD ?_)));cases j:((s.op:Int) == (8:Int))
    .
     have x:=ah j;refine lB 34 j (lL d ae (ai (cK (ab d [.c,.v (qP i 1),.o (iV s.a) 0 1 1] (lX 50 V n c 1 s.a s.a.toNat ((d.f.1).ok oM) ?_)))));exact lH 51 (iV (hv.getD s.a.toNat 0)) d ((d.f.1).el s.a.toNat oM) (lL d ae (af d [] (iV (hv.getD s.a.toNat 0)) (congrArg (Value.int .i64) (by unfold bB;first|(rw[if_pos oM])|(rw[if_neg oM,if_pos oM])|(rw[if_neg oM,if_neg oM,if_pos oM])|(rw[if_neg oM,if_neg oM,if_neg oM,if_pos oM])|(rw[if_neg oM,if_neg oM,if_neg oM,if_neg oM])))))
    have x:=eq_of_beq j;refine lB 34 j (lL d ae (au (cQ (cR 12 [] mixed d ao ?_))));refine eV 0 35 (qP i 3) (eO 1 36 [(0,3,1)] (iV s.n) d (eV 2 37 (qP i 3) (eO 3 38 [(0,3,1)] (iV s.n) d (eI 4 39 (0-s.n) (eV 5 40 (iV (max (max (s.n:Int) (0-s.n:Int)) (1:Int))) ?_ (hv:=fun _=>ba (n:=(if (1:Int)>(if (0-s.n:Int)>(s.n:Int) then (0-s.n:Int) else (s.n:Int)) then (1:Int) else (if (0-s.n:Int)>(s.n:Int) then (0-s.n:Int) else (s.n:Int)))) kR (by simp only[mc])))))));exact eV 6 41 (qS V n c) (eV 7 42 (qP i 1) (eO 8 43 [(0,1,1)] (iV s.a) d (eX 9 44 V n c 1 s.a s.a.toNat ((d.f.1).ok oM) (eH 10 45 (iV (hv.getD s.a.toNat 0)) d ((d.f.1).el s.a.toNat oM) (eI 11 46 ((max (max (s.n:Int) (0-s.n:Int)) (1:Int))*(hv.getD s.a.toNat 0)) (ce d (fun _ _ d=>tV 12 4 (iV ((max (max (s.n:Int) (0-s.n:Int)) (1:Int))*(hv.getD s.a.toNat 0))) (tN (kX (d.ret [] (iV ((max (max (s.n:Int) (0-s.n:Int)) (1:Int))*(hv.getD s.a.toNat 0))) (congrArg (Value.int .i64) (by unfold bB;first|(rw[if_pos oM])|(rw[if_neg oM,if_pos oM])|(rw[if_neg oM,if_neg oM,if_pos oM])|(rw[if_neg oM,if_neg oM,if_neg oM,if_pos oM])|(rw[if_neg oM,if_neg oM,if_neg oM,if_neg oM])))))))))))))
   have z:=eq_of_beq p;refine lB 26 p (lL d ae (au (ab d [.c,.v (qP i 1),.o (iV s.a) 0 1 1] (lX 30 V n c 1 s.a s.a.toNat ((d.f.1).ok oM) ?_))));exact lH 31 (iV (hv.getD s.a.toNat 0)) d ((d.f.1).el s.a.toNat oM) (lI 32 (2*(hv.getD s.a.toNat 0)) (lL d ae (af d [] (iV (2*(hv.getD s.a.toNat 0))) (congrArg (Value.int .i64) (by unfold bB;first|(rw[if_pos oM])|(rw[if_neg oM,if_pos oM])|(rw[if_neg oM,if_neg oM,if_pos oM])|(rw[if_neg oM,if_neg oM,if_neg oM,if_pos oM])|(rw[if_neg oM,if_neg oM,if_neg oM,if_neg oM]))))))
  have y:=eq_of_beq e;refine lB 11 e (lL d ae (au (cQ (cR 11 [] mixed d ao ?_))));exact eV 0 12 (qS V n c) (eV 1 13 (qP i 1) (eO 2 14 [(0,1,1)] (iV s.a) d (eX 3 15 V n c 1 s.a s.a.toNat ((d.f.1).ok oM) (eH 4 16 (iV (hv.getD s.a.toNat 0)) d ((d.f.1).el s.a.toNat oM) (eV 5 17 (qS V n c) (eV 6 18 (qP i 2) (eO 7 19 [(0,2,1)] (iV s.b) d (eX 8 20 V n c 1 s.b s.b.toNat ((d.f.1).ok oM) (eH 9 21 (iV (hv.getD s.b.toNat 0)) d ((d.f.1).el s.b.toNat oM) (eI 10 22 ((hv.getD s.a.toNat 0)+(hv.getD s.b.toNat 0)) (ce d (fun _ _ d=>tV 11 4 (iV ((hv.getD s.a.toNat 0)+(hv.getD s.b.toNat 0))) (tN (kX (d.ret [] (iV ((hv.getD s.a.toNat 0)+(hv.getD s.b.toNat 0))) (congrArg (Value.int .i64) (by unfold bB;first|(rw[if_pos oM])|(rw[if_neg oM,if_pos oM])|(rw[if_neg oM,if_neg oM,if_pos oM])|(rw[if_neg oM,if_neg oM,if_neg oM,if_pos oM])|(rw[if_neg oM,if_neg oM,if_neg oM,if_neg oM]))))))))))))))))))
 have u:=eq_of_beq l;exact lB 9 l (lL d ae (au (ab d ae (af d [] (iV 1) (congrArg (Value.int .i64) (by unfold bB;first|(rw[if_pos oM])|(rw[if_neg oM,if_pos oM])|(rw[if_neg oM,if_neg oM,if_pos oM])|(rw[if_neg oM,if_neg oM,if_neg oM,if_pos oM])|(rw[if_neg oM,if_neg oM,if_neg oM,if_neg oM])))))))
theorem ne (inp:Int)(A:Z9)(c:Nat)(l:List Stp)(O:Z9)(d:Nat)(os:List Int)(hl:l.length<=1000000)(ho:os.length<=1000000)(hq:∀ i,i<l.length->LQ 1 (l.getD i aa).q)(w:World)(h:Hp)(g:G w h)(hA:SlO 9 dw aa h A l)(hO:Si O os h):CV 27 #[.agg #[iV inp,.slice A ((l).length) c,.slice O ((os).length) d]] w h (iV (bZ inp l os)):=by
 have a:=(((sS g).aS hA).aS hO);refine go Tryz.func27 [(0,.agg #[iV inp,qS A ((l).length) c,qS O ((os).length) d])] rfl (aD (lA 1 50 ([iV inp,qS A ((l).length) c,qS O ((os).length) d]) a (fun u w2 h3 a=>lL a ae (ag (ab a [.v (pB u),.o (iV inp) 0 0 1] ?_)))));cases C:(decide ((inp:Int)<(0:Int)))
 .
  have J:=oF C;refine lB 10 C (lL a [.c,.v (pB u),.o (iV inp) 0 0 1] ?_);cases B:(decide ((1000:Int)<(inp:Int)))
  .
   have S:=oF B;refine lB 14 B (lL a [.v qF,.c,.v (qP u 1),.o (qS A ((l).length) c) 0 1 1,.v (nV ((l).length))] ?_);cases D:(decide ((65536:Int)<(((l).length:Nat):Int)))
   .
    have K:=oF D;refine lB 20 D (lL a [.v qF,.c,.v (qP u 2),.o (qS O ((os).length) d) 0 2 1,.v (nV ((os).length))] ?_);cases z:(decide ((300:Int)<(((os).length:Nat):Int)))
    .
     have M:=oF z;refine lB 26 z (lL a [.v qF] (ai (cK (ab a [.v (qP u 1),.o (qS A ((l).length) c) 0 1 1,.v (nV ((l).length))] (lK 31 3 ((l).length) 1 8 (iV 0) cj (0:Int) a (fun b8 w9 zp a=>?_))))));have zn:(y2 ((l).length) (0:Int)).length=((l).length):=by simp
     refine lL a ae (ag (ab a [.v (qP u 1),.o (qS A ((l).length) c) 1 1 1,.v (nV ((l).length)),.c] (be ?_)));have x:0<=inp/\inp<=1000/\l.length<=65536/\os.length<=300:=by omega
     refine bU _ (CG.loop (fun F Γ Z=>∃ (k:Nat)(L:List Int)(y:Hp),F=l.length-k/\Γ=[(1,pB u),(3,qS (sB b8) ((l).length) ((l).length)),(33,qS A ((l).length) c),(34,nV ((l).length)),(35,nV k)]/\SS w h Z y [⟨b8,3,(L).flatMap cj⟩,⟨u,50,[iV inp,qS A ((l).length) c,qS O ((os).length) d]⟩] [] [Si O os,fun y=>SlO 9 dw aa y A l]/\k<=l.length/\L.length=l.length/\Wts L k/\oy inp l []=oy inp (l.drop k) (L.take k)) _ ⟨0,y2 ((l).length) (0:Int),zp,rfl,rfl,a.to _ _,JU _,zn,fun j U=>absurd U (K6 j),rfl⟩ ?_);rintro _ _ _ ⟨k,L,zq,bf,rfl,a,hk,I,H,p⟩;refine aD ?_;cases za:(decide ((k:Int)<(((l).length:Nat):Int)))
     .
      have zg:=oF za;refine lB 36 za (ag (dv (CG.exit ?_)))
      show CG _ _ _ _ _ _ _ _
      refine cQ (ab a [.v (qP u 2),.o (qS O ((os).length) d) 1 2 1,.v (nV ((os).length)),.c] (be ?_));refine bU _ (CG.loop (fun F Γ Z=>∃ (j:Nat)(y:Hp),F=os.length-j/\Γ=[(1,pB u),(57,qS O ((os).length) d),(58,nV ((os).length)),(59,nV j)]/\SS w h Z y [⟨b8,3,(L).flatMap cj⟩,⟨u,50,[iV inp,qS A ((l).length) c,qS O ((os).length) d]⟩] [] [Si O os,fun y=>SlO 9 dw aa y A l]/\j<=os.length/\(∀ i,i<j->0<=os.getD i 0/\os.getD i 0<l.length)) _ ⟨0,zq,rfl,rfl,a.to _ _,JU _,fun j U=>absurd U (K6 j)⟩ ?_);rintro _ _ _ ⟨j,zr,bb,rfl,a,U,Q⟩;refine aD ?_;cases zb:(decide ((j:Int)<(((os).length:Nat):Int)))
      .
       have zi:=oF zb;refine lB 60 zb (ag (dv (CG.exit ?_)))
       show CG _ _ _ _ _ _ _ _
       exact ab a ae (af a [] (iV 0) (congrArg (Value.int .i64) (qk x (by rw[p,yT oM];rfl) (fun i hi=>Q i oM)).symm))
      have zi:=oT zb;refine lB 60 zb (ag (bT (cK (cQ (kZ (aD (lX 61 O ((os).length) d 1 (j:Nat) j ((a.f.1).ok oM) ?_)))))));refine lH 62 (iV (os.getD j 0)) a ((a.f.1).el j oM) (lL a ae (a7 (lL a ae ?_)));cases W:(decide ((os.getD j 0:Int)<(0:Int)))
      .
       have zj:=oF W;refine lB 64 W (lL a [.c,.c,.v (qP u 1),.o (qS A ((l).length) c) 1 1 1,.v (nV ((l).length))] ?_);cases X:(decide ((((l).length:Nat):Int)<=(os.getD j 0:Int)))
       .
        have zk:=oF X;refine lB 70 X (lL a [.v qF] (ai (cK (kQ (bM 72 ((j:Nat)+1) (j+1) ?_)))));refine lL a ae (lD ?_);intro a_ ka;refine ⟨_,_,?_,⟨j+1,zr,rfl,rfl,a.to _ _,oM,(fun i hi=>by by_cases e:i=j;(subst e;omega);exact Q i oM)⟩,ka.to _ kR⟩
        omega
       have zk:=oT X;exact lB 70 X (lL a [.v qT] (au (ab a ae (af a [] (iV 1) (congrArg (Value.int .i64) (oq x (by rw[p,yT oM];rfl) (fun y=>by have:=y j oM;omega)).symm)))))
      have zj:=oT W;refine lB 64 W (lL a ae (lG 66 ?_));exact lG 67 (lG 68 (lG 69 (lG 70 (lL a [.v qT] (au (ab a ae (af a [] (iV 1) (congrArg (Value.int .i64) (oq x (by rw[p,yT oM];rfl) (fun y=>by have:=y j oM;omega)).symm))))))))
     have zg:=oT za;refine lB 36 za (ag (bT (cK (cQ (kZ (ab a ae (lX 38 A ((l).length) c 9 (k:Nat) k ((a.f.2.1).ok oM) ?_)))))));refine lH 39 (sX (l.getD k aa)) a ((a.f.2.1).el k oM) (lA 5 86 ([iV 0,iV 0,iV 0,iV 0,qF,uV 0,eS,uV 0,eS]) a (fun zs _ _ a=>lL a ae (lP 0 0 (sC (l.getD k aa)) a (fun _ a=>ag (ab a [.o (.agg #[iV inp,qS A ((l).length) c,qS O ((os).length) d]) 2 0 3,.c] (ak 42 a (BW inp A c l O d os k oM oM (hq k oM) _ _ a.g a.f.2.1 a.f.1) (fun _ _ a=>?_)))))));cases zf:(decide (Formed inp k (l.getD k aa)))
     .
      have zl:=oF zf;exact lL a [.v qT] (au (ab a ae (af a [] (iV 2) (congrArg (Value.int .i64) ((qR x (by rw[p,tQ oM (by simp;omega) ‹¬Formed inp k (l.getD k aa)›];decide)).trans (p.trans (tQ oM (by simp;omega) ‹¬Formed inp k (l.getD k aa)›))).symm))))
     have zl:=oT zf;refine lL a [.v qF] (ai (cK (ab a [.c,.c,.o (sX (l.getD k aa)) 0 0 9,.c] (HW 48 1 a (fun _ g_ f_ sg_=>Bj (l.getD k aa) (sB b8) ((l).length) ((l).length) L I k inp ‹Formed inp k (l.getD k aa)› H oM _ _ g_ (SlO.of_flat (sz:=1) (f:=cj) (d:=0) (b:=b8) (o:=0) (l:=L) (fun _=>rfl) sg_)) ?_))));rintro _ _ zt a rfl;have Y:=H.weight ‹Formed inp k (l.getD k aa)›;have hgs:(L.set k (bB (l.getD k aa) L)).getD k 0=bB (l.getD k aa) L:=by rw[A4,yw oM];rfl
     refine lX 49 (sB b8) ((l).length) ((l).length) 1 (k:Nat) k rfl (lW 1 L cj 1 k (bB (l.getD k aa) L) a oM (fun _ a=>?_));have zo:((L).set k (bB (l.getD k aa) L)).length=((l).length):=by rw[JJ];exact I
     replace a:=a.to [⟨zs,86,sC (l.getD k aa)⟩,⟨b8,3,((L).set k (bB (l.getD k aa) L)).flatMap cj⟩,⟨u,50,[iV inp,qS A ((l).length) c,qS O ((os).length) d]⟩] [];refine a7 (lL a aN (lX 52 (sB b8) ((l).length) ((l).length) 1 (k:Nat) k rfl ?_));refine lQ 53 1 ((L).set k (bB (l.getD k aa) L)) cj 1 0 k (iV (((L).set k (bB (l.getD k aa) L)).getD k 0)) a oM ?_;cases V:(decide ((65536:Int)<(((L).set k (bB (l.getD k aa) L)).getD k 0:Int)))
     .
      have zm:=oF V;refine lB 54 V (ai (cK (kQ (bM 55 ((k:Nat)+1) (k+1) ?_))));refine lL a ae (lD ?_);intro a_ ka;replace a:=a.drop 1 0;refine ⟨_,_,?_,⟨k+1,(L).set k (bB (l.getD k aa) L),zt,rfl,rfl,a.to _ _,oM,zo,(H.snoc oM Y.1 oM),(p.trans ((pU oM (by simp;omega) ‹Formed inp k (l.getD k aa)› (by rw[gA ‹Formed inp k (l.getD k aa)›];omega)).trans (by rw[gA ‹Formed inp k (l.getD k aa)›,nC oM])))⟩,ka.to _ kR⟩
      omega
     have zm:=oT V;exact lB 54 V (au (ab a ae (af a [] (iV 18) (congrArg (Value.int .i64) ((qR x (by rw[p,qw oM (by simp;omega) ‹Formed inp k (l.getD k aa)› (by rw[gA ‹Formed inp k (l.getD k aa)›];omega)];decide)).trans (p.trans (qw oM (by simp;omega) ‹Formed inp k (l.getD k aa)› (by rw[gA ‹Formed inp k (l.getD k aa)›];omega)))).symm))))
    have M:=oT z;exact lB 26 z (lL a [.v qT] (au (ab a ae (af a [] (iV 5) (congrArg (Value.int .i64) (fi oM).symm)))))
   have K:=oT D;refine lB 20 D (lL a [.v qT,.c] (lG 23 ?_));exact lG 24 (lG 25 (lG 26 (lL a [.v qT] (au (ab a ae (af a [] (iV 5) (congrArg (Value.int .i64) (fi oM).symm)))))))
  have S:=oT B;refine lB 14 B (lL a [.v qT,.c] (lG 17 ?_));refine lG 18 (lG 19 (lG 20 (lL a [.v qT,.c] (lG 23 ?_))));exact lG 24 (lG 25 (lG 26 (lL a [.v qT] (au (ab a ae (af a [] (iV 5) (congrArg (Value.int .i64) (fi oM).symm)))))))
 have J:=oT C;refine lB 10 C (lL a ae (lG 12 ?_));refine lG 13 (lG 14 (lL a [.v qT,.c] (lG 17 ?_)));refine lG 18 (lG 19 (lG 20 (lL a [.v qT,.c] (lG 23 ?_))));exact lG 24 (lG 25 (lG 26 (lL a [.v qT] (au (ab a ae (af a [] (iV 5) (congrArg (Value.int .i64) (fi oM).symm)))))))
theorem qh:∀ b:Bool,b=false\/b=true
 | false=>.inl rfl
 | true=>.inr rfl
theorem ma {sm:Bool}{l:List Stp}{at_ L:List Rat}{k n:Nat}{e:Int}(h0:terr sm l at_ k=0)(hk:k<n)(a:∀ j,L.getD j 0=(aR l at_ k).getD j 0)(h:eW sm (l.getD k aa) L=e)(b:e≠0):terr sm l at_ n=e:=by
 have e1:eW sm (l.getD k aa) (aR l at_ k)=e:=by rw[<-h];unfold eW;rw[a,a]
 rw[vb h0 hk (by rw[e1];exact b),e1]
theorem ki {sm:Bool}{l:List Stp}{at_ L:List Rat}{k:Nat}(h0:terr sm l at_ k=0)(a:∀ j,L.getD j 0=(aR l at_ k).getD j 0)(h:eW sm (l.getD k aa) L=0):terr sm l at_ (k+1)=0:=by
 refine uO h0 ?_;rw[<-h];unfold eW;rw[a,a]
theorem Fs {sm:Bool}{s:Stp}{v:List Rat}(h:s.op=2):eW sm s v=0:=if_pos h
theorem wO {sm:Bool}{s:Stp}{v:List Rat}(h:i8 s.op s.n (v.getD s.a.toNat 0) (v.getD s.b.toNat 0))(c:¬(sm=true/\jh s.op (v.getD s.a.toNat 0) (v.getD s.b.toNat 0))):eW sm s v=0:=by
 by_cases e:s.op=2
 ·exact if_pos e
 ·unfold eW;rw[if_neg e,if_pos h,if_neg c]
theorem wE {sm:Bool}{s:Stp}{v:List Rat}(c:s.op≠2)(h:¬i8 s.op s.n (v.getD s.a.toNat 0) (v.getD s.b.toNat 0)):eW sm s v=6:=by
 unfold eW;rw[if_neg c,if_neg h]
theorem EU {s:Stp}{v:List Rat}(c:s.op≠2)(h:i8 s.op s.n (v.getD s.a.toNat 0) (v.getD s.b.toNat 0))(d:jh s.op (v.getD s.a.toNat 0) (v.getD s.b.toNat 0)):eW true s v=7:=by
 unfold eW;rw[if_neg c,if_pos h,if_pos ⟨rfl,d⟩]
theorem Cv {sm:Bool}{s:Stp}{v:List Rat}(d:s.op≠2)(h:i8 s.op s.n (v.getD s.a.toNat 0) (v.getD s.b.toNat 0))(c:sm=true)(e:jh s.op (v.getD s.a.toNat 0) (v.getD s.b.toNat 0)):eW sm s v=7:=by subst c;exact EU d h e
theorem mQ {l:List Stp}{at_ L:List Rat}{k:Nat}{x:Rat}(hk:k<L.length)(a:∀ j,L.getD j 0=(aR l at_ k).getD j 0)(c:x=nG (l.getD k aa) at_ L):∀ j,(L.set k x).getD j 0=(aR l at_ (k+1)).getD j 0:=fun j=>by
 have e1:nG (l.getD k aa) at_ L=nG (l.getD k aa) at_ (aR l at_ k):=by unfold nG;rw[a,a]
 have b:=eN l at_ k
 show _=(aR l at_ k++[_]).getD j 0
 rw[dL hk,bj,b,<-e1,<-c]
 by_cases e:j=k
 ·rw[if_pos e,if_neg oM,if_pos e]
 ·rw[if_neg e,a j]
  by_cases h:j<k
  ·rw[if_pos h]
  ·rw[if_neg h,if_neg e,bG oM]
theorem fp {a b:List Rat}(h:a.length=b.length)(hv:∀ j,a.getD j 0=b.getD j 0):a=b:=by
 refine List.ext_getElem h (fun i h1 c=>?_);have:=hv i
 simpa [h1,c] using this
def cZ (sm:Bool)(l:List Stp)(at_:List Rat):List Rat:=if terr sm l at_ l.length=0 then aR l at_ l.length else []
theorem Cj {vs R:List Rat}{os:List Int}(a:R.length=os.length)(h:∀ j,j<os.length->R.getD j 0=vs.getD (os.getD j 0).toNat 0):R=ge vs os:=by
 refine fp (by unfold ge;rw[K7];exact a) (fun j=>?_)
 by_cases hj:j<os.length
 ·rw[h j hj];unfold ge
  have e:(os.map fun o=>vs.getD o.toNat 0).getD j 0=vs.getD (os.getD j 0).toNat 0:=by simp[A4,hj]
  exact e.symm
 ·rw[bG oM,bG (by unfold ge;rw[K7];omega)]
theorem tT {inp:Int}:∀ {l:List Stp} {hv:List Int},oy inp l hv=0->∀ j,j<l.length->Formed inp (hv.length+j) (l.getD j aa)
  | [],_,_,j,hj=>by simp at hj
  | s :: r,hv,h,j,hj=>by
    unfold oy at h
    split at h
    . rename_i hf
      split at h
      . exact absurd h kD
      . cases j with
        | zero=>exact hf
        | succ j =>
          have:=tT h j (by simpa using hj);rw[yR,K8] at this
          rw[show hv.length+(j+1)=hv.length+1+j by omega];exact this
    . exact absurd h kD
theorem d7 {inp:Int}{l:List Stp}{os:List Int}(h:bZ inp l os=0):(∀ k,k<l.length->Formed inp k (l.getD k aa))/\fr l.length os/\0<=inp/\inp<=1000/\l.length<=65536/\os.length<=300:=by
  unfold bZ at h
  split at h
  . rename_i h1
    split at h
    . rename_i a
      split at h
      . rename_i b
        exact ⟨fun k hk=>by have:=tT a k hk;simpa using this,b,h1⟩
      . exact absurd h kD
    . rename_i a;exact absurd h a
  . exact absurd h kD
theorem Dc (sm H:Bool)(M:H=sm)(inp:Int)(A:Z9)(c:Nat)(l:List Stp)(O:Z9)(d:Nat)(os:List Int)(at_:List Rat)(X:Z9)(S:Nat)(hF:∀ k,k<l.length->Formed inp k (l.getD k aa))(hl:l.length<=65536)(hat:(at_.length:Int)=inp)(hq:∀ i,LQ 1 (l.getD i aa).q)(hB:∀ k,k<=l.length->terr sm l at_ k=0->∀ j,LQ 1000000 ((aR l at_ k).getD j 0))(w:World)(h:Hp)(g:G w h)(hA:SlO 9 dw aa h A l)(hO:Si O os h)(hX:Sq X at_ h)(tb:Tab h):CR 31 #[.agg #[iV inp,.slice A ((l).length) c,.slice O ((os).length) d],.slice X at_.length S,.bool H] w h (fun v h1=>∃ A c,v=.tuple #[.slice A (cZ sm l at_).length c,iV (terr sm l at_ l.length)]/\(cZ sm l at_).length<=c/\Sq A (cZ sm l at_) h1):=by
 have e:=(((((sS g).aS hA).aS hO).aS hX).add (K:=fun B=>Tab B) tb);refine go Tryz.func31 [(0,.agg #[iV inp,qS A ((l).length) c,qS O ((os).length) d]),(1,qS X at_.length S),(2,.bool H)] rfl (aD (lA 3 50 ([iV inp,qS A ((l).length) c,qS O ((os).length) d]) e (fun U w2 h3 e=>lL e aN (a7 (lL e [.v (qP U 1),.o (qS A ((l).length) c) 0 1 1,.v (nV ((l).length))] (lK 18 29 ((l).length) 5 56 da qc 0 e (fun x w5 h6 e=>?_)))))));have hl7:(y2 ((l).length) 0).length=((l).length):=by simp
 refine lL e ae (ag (ab e [.v (qP U 1),.o (qS A ((l).length) c) 1 1 1,.v (nV ((l).length)),.c] (be ?_)));refine bU _ (CG.loop (fun μ_ Γ w_=>∃ (k:Nat)(L:List Rat)(B:Hp),μ_=l.length-k/\Γ=[(1,qS X at_.length S),(2,.bool H),(8,qS (sB x) ((l).length) ((l).length)),(20,qS A ((l).length) c),(21,nV ((l).length)),(22,nV k)]/\SS w h w_ B [⟨x,29,(L).flatMap qc⟩,⟨U,50,[iV inp,qS A ((l).length) c,qS O ((os).length) d]⟩] [] [fun B=>Tab B,Sq X at_,Si O os,fun B=>SlO 9 dw aa B A l]/\k<=l.length/\L.length=l.length/\(∀ j,L.getD j 0=(aR l at_ k).getD j 0)/\terr sm l at_ k=0) _ ⟨0,y2 l.length (0:Rat),h6,rfl,rfl,e.to _ _,JU _,(by simp),(fun j=>by rw[eD];rfl),rfl⟩ ?_);rintro _ _ w8 ⟨k,L,h9,bl,rfl,e,hk,F,u,p⟩;have J:∀ j,LQ 1000000 (L.getD j 0):=fun j=>by rw[u j];exact hB k hk p j
 refine aD ?_;cases zb:(decide ((k:Int)<(((l).length:Nat):Int)))
 .
  have zi:=oF zb;refine lB 23 zb (ag (dv (CG.exit ?_)))
  show CG _ _ _ _ _ _ _ _
  refine ab e ff (lN (kX ?_));have hkn:k=l.length:=by omega
  rw[hkn] at u p
  have C:cZ sm l at_=L:=by unfold cZ;rw[if_pos p];exact (fp (by rw[eN,F]) u).symm
  obtain ⟨_,e,bf,bm,bn⟩:=e.pub 0;replace e:=(e.to [⟨U,50,[iV inp,qS A ((l).length) c,qS O ((os).length) d]⟩] []).aS (SlO.of_flat (sz:=5) (f:=qc) (d:=0) (b:=x) (o:=0) (l:=L) (fun _=>rfl) bf);exact e.ret [] (.tuple #[qS (sB x) ((l).length) ((l).length),iV 0]) (by rw[p,C,F];exact ⟨_,_,rfl,nR _,e.f.1⟩)
 have zi:=oT zb;refine lB 23 zb (ag (bT (cK (cQ (kZ (ab e ae (lX 25 A ((l).length) c 9 (k:Nat) k ((e.f.r.2.1).ok oM) ?_)))))));refine lH 26 (sX (l.getD k aa)) e ((e.f.r.2.1).el k oM) (lA 10 86 ([iV 0,iV 0,iV 0,iV 0,qF,uV 0,eS,uV 0,eS]) e (fun za _ zq e=>lL e ae (lP 0 0 (sC (l.getD k aa)) e (fun _ e=>ag (aD ?_)))));have fk:=hF k oM;obtain ⟨f0,f1,f2,f3,f4,f5,f6⟩:=fk
 dsimp only[dS] at f1 f2
 have hac:=aA (l.getD k aa).op;refine lL e [.v (pB za),.o (iV ((l.getD k aa).op)) 0 0 1] ?_;cases zc:(((l.getD k aa).op:Int) == (2:Int))
 .
  have zj:=ah zc;refine lB 29 zc (ai (cK (cQ ?_)));have I:=e;refine kT 12 [⟨10,11,.cells (Ky [qF,uV 0,eS,uV 0,eS]) 29 (0,0)⟩,⟨11,12,.cells (Ky [qF,uV 0,eS,uV 0,eS]) 29 (0,0)⟩] [] mixed e (aZ (dB kR (fun _ _=>by kernel_rfl)) (aZ (dB kR (fun _ _=>by kernel_rfl)) ao)) (eV 0 38 (qS (sB x) ((l).length) ((l).length)) (eV 1 39 (qP za 1) (eO 2 40 [(0,1,1)] (iV ((l.getD k aa).a)) e (eX 3 41 (sB x) ((l).length) ((l).length) 5 ((l.getD k aa).a) ((l.getD k aa).a.toNat) rfl (Hy 4 42 1 L qc 5 0 ((l.getD k aa).a.toNat) (qv ((L).getD ((l.getD k aa).a.toNat) 0)) I e oM (eV 5 43 (qS (sB x) ((l).length) ((l).length)) (eV 6 44 (qP za 2) (jW 7 45 [(0,2,1)] (iV ((l.getD k aa).b)) I e (eX 8 46 (sB x) ((l).length) ((l).length) 5 ((l.getD k aa).b) ((l.getD k aa).b.toNat) rfl (Hy 9 47 1 L qc 5 0 ((l.getD k aa).b.toNat) (qv ((L).getD ((l.getD k aa).b.toNat) 0)) I e oM (xd I e 29 [qF,uV 0,eS,uV 0,eS] 29 [qF,uV 0,eS,uV 0,eS] (fun _ _ zl zm bb Y e=>tP 12 0 0 (qc ((L).getD ((l.getD k aa).a.toNat) 0)) e (fun _ e=>?_) (hz:=fb bb)))))))))))));refine tP 13 1 0 (qc ((L).getD ((l.getD k aa).b.toNat) 0)) e (fun _ e=>?_) (hz:=fb Y);refine uy (lL e [.o (sX (l.getD k aa)) 2 0 9,.o (qv ((L).getD ((l.getD k aa).a.toNat) 0)) 0 0 5,.o (qv ((L).getD ((l.getD k aa).b.toNat) 0)) 1 0 5] (ak 52 e (EX (l.getD k aa) (L.getD (l.getD k aa).a.toNat 0) (L.getD (l.getD k aa).b.toNat 0) 1000000 oM (J _) (J _) (hq k) oM oM oM _ _ e.g e.f.1) (fun _ _ e=>lL e [.c,.v (qv (me (l.getD k aa).op (l.getD k aa).n (l.getD k aa).q (L.getD (l.getD k aa).a.toNat 0) (L.getD (l.getD k aa).b.toNat 0))),.v (.bool (decide (i8 (l.getD k aa).op (l.getD k aa).n (L.getD (l.getD k aa).a.toNat 0) (L.getD (l.getD k aa).b.toNat 0))))] (lA 13 29 ca e (fun zd _ zr e=>lP 0 0 (qc (me (l.getD k aa).op (l.getD k aa).n (l.getD k aa).q (L.getD (l.getD k aa).a.toNat 0) (L.getD (l.getD k aa).b.toNat 0))) e (fun _ e=>lL e ae (ag (ab e ae ?_))))))));cases zf:(!(decide (i8 (l.getD k aa).op (l.getD k aa).n (L.getD (l.getD k aa).a.toNat 0) (L.getD (l.getD k aa).b.toNat 0))))
  .
   refine lB 56 zf (ai (cK (cQ (aD ?_))));have y:i8 (l.getD k aa).op (l.getD k aa).n (L.getD (l.getD k aa).a.toNat 0) (L.getD (l.getD k aa).b.toNat 0):=by simpa using ‹(!decide (i8 (l.getD k aa).op (l.getD k aa).n (L.getD (l.getD k aa).a.toNat 0) (L.getD (l.getD k aa).b.toNat 0)))=false›
   rcases qh (H) with ze|ze
   .
    refine lB 57 ze (lL e ae (lG 59 ?_));refine lG 60 (lG 61 (lG 62 (lL e [.v qF] (lN (bU [(1,qS X at_.length S),(2,.bool H),(8,qS (sB x) ((l).length) ((l).length)),(20,qS A ((l).length) c),(21,nV ((l).length)),(22,nV k),(9,nV k),(13,pB zd),(63,qF)] ?_)))));refine dv (cK (kQ ?_));have D:¬(sm=true/\jh (l.getD k aa).op (L.getD (l.getD k aa).a.toNat 0) (L.getD (l.getD k aa).b.toNat 0)):=by first|exact fun B=>absurd B.2 (oF ‹decide (jh (l.getD k aa).op (L.getD (l.getD k aa).a.toNat 0) (L.getD (l.getD k aa).b.toNat 0))=false›)|exact fun B=>absurd B.1 (by rw[<-M,‹H=false›];decide)
    refine lL e [.c,.c,.o (qv (me (l.getD k aa).op (l.getD k aa).n (l.getD k aa).q (L.getD (l.getD k aa).a.toNat 0) (L.getD (l.getD k aa).b.toNat 0))) 0 0 5] (lX 67 (sB x) ((l).length) ((l).length) 5 (k:Nat) k rfl ?_);refine lW 4 L qc 5 k (me (l.getD k aa).op (l.getD k aa).n (l.getD k aa).q (L.getD (l.getD k aa).a.toNat 0) (L.getD (l.getD k aa).b.toNat 0)) e oM (fun _ e=>?_);have zn:((L).set k (me (l.getD k aa).op (l.getD k aa).n (l.getD k aa).q (L.getD (l.getD k aa).a.toNat 0) (L.getD (l.getD k aa).b.toNat 0))).length=((l).length):=by rw[JJ];exact F
    replace e:=e.to [⟨zd,29,qc (me (l.getD k aa).op (l.getD k aa).n (l.getD k aa).q (L.getD (l.getD k aa).a.toNat 0) (L.getD (l.getD k aa).b.toNat 0))⟩,⟨zl,29,qc ((L).getD ((l.getD k aa).a.toNat) 0)⟩,⟨zm,29,qc ((L).getD ((l.getD k aa).b.toNat) 0)⟩,⟨za,86,sC (l.getD k aa)⟩,⟨x,29,((L).set k (me (l.getD k aa).op (l.getD k aa).n (l.getD k aa).q (L.getD (l.getD k aa).a.toNat 0) (L.getD (l.getD k aa).b.toNat 0))).flatMap qc⟩,⟨U,50,[iV inp,qS A ((l).length) c,qS O ((os).length) d]⟩] [];refine lN (kQ (bM 68 ((k:Nat)+1) (k+1) ?_));refine lL e ae (lD ?_);intro a_ V;replace e:=e.drop 4 0;refine ⟨_,_,?_,⟨k+1,(L).set k (me (l.getD k aa).op (l.getD k aa).n (l.getD k aa).q (L.getD (l.getD k aa).a.toNat 0) (L.getD (l.getD k aa).b.toNat 0)),zr,rfl,rfl,e.to _ _,oM,zn,(mQ oM u (by unfold nG me;rw[if_neg (show ¬(l.getD k aa).op=2 by omega),if_pos y])),(ki p u (wO y D))⟩,V.to _ kR⟩
    omega
   refine lB 57 ze (lL e [.c,.o (sX (l.getD k aa)) 3 0 9,.o (qv ((L).getD ((l.getD k aa).a.toNat) 0)) 1 0 5,.o (qv ((L).getD ((l.getD k aa).b.toNat) 0)) 2 0 5] (ak 62 e (Cw (l.getD k aa) (L.getD (l.getD k aa).a.toNat 0) (L.getD (l.getD k aa).b.toNat 0) 1000000 oM (J _) (J _) _ _ e.g) (fun _ zs e=>?_)));cases zg:(decide (jh (l.getD k aa).op (L.getD (l.getD k aa).a.toNat 0) (L.getD (l.getD k aa).b.toNat 0)))
   .
    have zk:=oF zg;refine lL e [.v qF] (lN (bU [(1,qS X at_.length S),(2,.bool H),(8,qS (sB x) ((l).length) ((l).length)),(20,qS A ((l).length) c),(21,nV ((l).length)),(22,nV k),(9,nV k),(13,pB zd),(63,qF)] ?_));refine dv (cK (kQ ?_));have D:¬(sm=true/\jh (l.getD k aa).op (L.getD (l.getD k aa).a.toNat 0) (L.getD (l.getD k aa).b.toNat 0)):=by first|exact fun B=>absurd B.2 (oF ‹decide (jh (l.getD k aa).op (L.getD (l.getD k aa).a.toNat 0) (L.getD (l.getD k aa).b.toNat 0))=false›)|exact fun B=>absurd B.1 (by rw[<-M,‹H=false›];decide)
    refine lL e [.c,.c,.o (qv (me (l.getD k aa).op (l.getD k aa).n (l.getD k aa).q (L.getD (l.getD k aa).a.toNat 0) (L.getD (l.getD k aa).b.toNat 0))) 0 0 5] (lX 67 (sB x) ((l).length) ((l).length) 5 (k:Nat) k rfl ?_);refine lW 4 L qc 5 k (me (l.getD k aa).op (l.getD k aa).n (l.getD k aa).q (L.getD (l.getD k aa).a.toNat 0) (L.getD (l.getD k aa).b.toNat 0)) e oM (fun _ e=>?_);have zo:((L).set k (me (l.getD k aa).op (l.getD k aa).n (l.getD k aa).q (L.getD (l.getD k aa).a.toNat 0) (L.getD (l.getD k aa).b.toNat 0))).length=((l).length):=by rw[JJ];exact F
    replace e:=e.to [⟨zd,29,qc (me (l.getD k aa).op (l.getD k aa).n (l.getD k aa).q (L.getD (l.getD k aa).a.toNat 0) (L.getD (l.getD k aa).b.toNat 0))⟩,⟨zl,29,qc ((L).getD ((l.getD k aa).a.toNat) 0)⟩,⟨zm,29,qc ((L).getD ((l.getD k aa).b.toNat) 0)⟩,⟨za,86,sC (l.getD k aa)⟩,⟨x,29,((L).set k (me (l.getD k aa).op (l.getD k aa).n (l.getD k aa).q (L.getD (l.getD k aa).a.toNat 0) (L.getD (l.getD k aa).b.toNat 0))).flatMap qc⟩,⟨U,50,[iV inp,qS A ((l).length) c,qS O ((os).length) d]⟩] [];refine lN (kQ (bM 68 ((k:Nat)+1) (k+1) ?_));refine lL e ae (lD ?_);intro a_ V;replace e:=e.drop 4 0;refine ⟨_,_,?_,⟨k+1,(L).set k (me (l.getD k aa).op (l.getD k aa).n (l.getD k aa).q (L.getD (l.getD k aa).a.toNat 0) (L.getD (l.getD k aa).b.toNat 0)),zs,rfl,rfl,e.to _ _,oM,zo,(mQ oM u (by unfold nG me;rw[if_neg (show ¬(l.getD k aa).op=2 by omega),if_pos y])),(ki p u (wO y D))⟩,V.to _ kR⟩
    omega
   have zk:=oT zg;refine lL e [.v qT] (lN (bU [(1,qS X at_.length S),(2,.bool H),(8,qS (sB x) ((l).length) ((l).length)),(20,qS A ((l).length) c),(21,nV ((l).length)),(22,nV k),(9,nV k),(13,pB zd),(63,qT)] ?_));refine bT (aD ?_);have Z:sm=true:=by rw[<-M];assumption
   have W:jh (l.getD k aa).op (L.getD (l.getD k aa).a.toNat 0) (L.getD (l.getD k aa).b.toNat 0):=oT ‹decide (jh (l.getD k aa).op (L.getD (l.getD k aa).a.toNat 0) (L.getD (l.getD k aa).b.toNat 0))=true›;refine lL e aN (lN (kX ?_));have z:terr sm l at_ l.length=7:=ma p oM u (Cv oM y Z W) kD;have C:cZ sm l at_=[]:=by unfold cZ;rw[if_neg (by rw[z];decide)]
   exact e.ret [] (.tuple #[sZ,iV 7]) (by rw[z,C];exact ⟨none,0,rfl,nR _,SlO.nil⟩)
  refine lB 56 zf (au (aD ?_));have Q:¬i8 (l.getD k aa).op (l.getD k aa).n (L.getD (l.getD k aa).a.toNat 0) (L.getD (l.getD k aa).b.toNat 0):=by simpa using ‹(!decide (i8 (l.getD k aa).op (l.getD k aa).n (L.getD (l.getD k aa).a.toNat 0) (L.getD (l.getD k aa).b.toNat 0)))=true›
  refine lL e aN (lN (kX ?_));have z:terr sm l at_ l.length=6:=ma p oM u (wE oM Q) kD;have C:cZ sm l at_=[]:=by unfold cZ;rw[if_neg (by rw[z];decide)]
  exact e.ret [] (.tuple #[sZ,iV 6]) (by rw[z,C];exact ⟨none,0,rfl,nR _,SlO.nil⟩)
 have zj:=eq_of_beq zc;refine lB 29 zc (au (ab e [.c,.c,.c,.v (qP za 3),.o (iV ((l.getD k aa).n)) 0 3 1] (lX 35 X at_.length S 5 ((l.getD k aa).n) ((l.getD k aa).n.toNat) ((e.f.2.1).ok oM) ?_)));refine lH 36 (qv (at_.getD ((l.getD k aa).n.toNat) 0)) e ((e.f.2.1).el ((l.getD k aa).n.toNat) oM) (lX 37 (sB x) ((l).length) ((l).length) 5 (k:Nat) k rfl (lW 1 L qc 5 k (at_.getD ((l.getD k aa).n.toNat) 0) e oM (fun _ e=>?_)));have zp:((L).set k (at_.getD ((l.getD k aa).n.toNat) 0)).length=((l).length):=by rw[JJ];exact F
 replace e:=e.to [⟨za,86,sC (l.getD k aa)⟩,⟨x,29,((L).set k (at_.getD ((l.getD k aa).n.toNat) 0)).flatMap qc⟩,⟨U,50,[iV inp,qS A ((l).length) c,qS O ((os).length) d]⟩] [];refine lN (CG.exit ?_)
 show CG _ _ _ _ _ _ _ _
 refine kQ (bM 68 ((k:Nat)+1) (k+1) ?_);refine lL e ae (lD ?_);intro a_ V;replace e:=e.drop 1 0;refine ⟨_,_,?_,⟨k+1,(L).set k (at_.getD ((l.getD k aa).n.toNat) 0),zq,rfl,rfl,e.to _ _,oM,zp,(mQ oM u (by unfold nG;rw[if_pos (show (l.getD k aa).op=2 by omega)])),(ki p u (Fs oM))⟩,V.to _ kR⟩
 omega
theorem Hv (inp:Int)(A:Z9)(c:Nat)(l:List Stp)(O:Z9)(d:Nat)(os:List Int)(vs:List Rat)(V:Z9)(z:Nat)(ho:os.length<=1000)(F:fr vs.length os)(w:World)(h:Hp)(g:G w h)(W:SlO 9 dw aa h A l)(hO:Si O os h)(L:Sq V vs h):CR 36 #[.agg #[iV inp,.slice A ((l).length) c,.slice O ((os).length) d],.slice V vs.length z] w h (fun v h1=>∃ A c,v=.slice A (ge vs os).length c/\(ge vs os).length<=c/\Sq A (ge vs os) h1):=by
 have a:=((((sS g).aS W).aS hO).aS L);refine go Tryz.func36 [(0,.agg #[iV inp,qS A ((l).length) c,qS O ((os).length) d]),(1,qS V vs.length z)] rfl (aD (lA 2 50 ([iV inp,qS A ((l).length) c,qS O ((os).length) d]) a (fun u w2 h3 a=>lL a ae (a7 (lL a [.v (qP u 2),.o (qS O ((os).length) d) 0 2 1,.v (nV ((os).length))] (lK 11 29 ((os).length) 5 56 da qc 0 a (fun i w5 X a=>?_)))))));have hl7:(y2 ((os).length) 0).length=((os).length):=by simp
 refine lL a ae (ag (ab a [.v (qP u 2),.o (qS O ((os).length) d) 1 2 1,.v (nV ((os).length)),.c] (be ?_)));refine bU _ (CG.loop (fun D Γ M=>∃ (k:Nat)(R:List Rat)(H:Hp),D=os.length-k/\Γ=[(1,qS V vs.length z),(4,sZ),(5,qS (sB i) ((os).length) ((os).length)),(13,qS O ((os).length) d),(14,nV ((os).length)),(15,nV k)]/\SS w h M H [⟨i,29,(R).flatMap qc⟩,⟨u,50,[iV inp,qS A ((l).length) c,qS O ((os).length) d]⟩] [] [Sq V vs,Si O os,fun H=>SlO 9 dw aa H A l]/\k<=os.length/\R.length=os.length/\(∀ j,j<k->R.getD j 0=vs.getD (os.getD j 0).toNat 0)) _ ⟨0,y2 os.length (0:Rat),X,rfl,rfl,a.to _ _,JU _,(by simp),fun j B=>absurd B (K6 j)⟩ ?_);rintro _ _ w8 ⟨k,R,Q,I,rfl,a,hk,p,y⟩;have Y:=fun h0=>F k h0
 refine aD ?_;cases za:(decide ((k:Int)<(((os).length:Nat):Int)))
 .
  have zb:=oF za;refine lB 16 za (ag (dv (CG.exit ?_)))
  show CG _ _ _ _ _ _ _ _
  refine ab a aN (lN (kX ?_));have U:k=os.length:=by omega
  have C:ge vs os=R:=(Cj oM (fun j B=>y j oM)).symm;obtain ⟨_,a,x,K,J⟩:=a.pub 0;replace a:=(a.to [⟨u,50,[iV inp,qS A ((l).length) c,qS O ((os).length) d]⟩] []).aS (SlO.of_flat (sz:=5) (f:=qc) (d:=0) (b:=i) (o:=0) (l:=R) (fun _=>rfl) x);exact a.ret [] (qS (sB i) ((os).length) ((os).length)) (by rw[C,p];exact ⟨_,_,rfl,nR _,a.f.1⟩)
 have zb:=oT za;refine lB 16 za (ag (bT (cK (cQ (kZ (ab a ae (lX 18 O ((os).length) d 1 (k:Nat) k ((a.f.2.1).ok oM) ?_)))))));refine lH 19 (iV (os.getD k 0)) a ((a.f.2.1).el k oM) (lL a aN (lN (kQ (lL a nK (lX 24 V vs.length z 5 (os.getD k 0) ((os.getD k 0).toNat) ((a.f.1).ok oM) ?_)))));refine lH 25 (qv (vs.getD ((os.getD k 0).toNat) 0)) a ((a.f.1).el ((os.getD k 0).toNat) oM) (lX 26 (sB i) ((os).length) ((os).length) 5 (k:Nat) k rfl (lW 0 R qc 5 k (vs.getD ((os.getD k 0).toNat) 0) a oM (fun _ a=>?_)));have Z:((R).set k (vs.getD ((os.getD k 0).toNat) 0)).length=((os).length):=by rw[JJ];exact p
 replace a:=a.to [⟨i,29,((R).set k (vs.getD ((os.getD k 0).toNat) 0)).flatMap qc⟩,⟨u,50,[iV inp,qS A ((l).length) c,qS O ((os).length) d]⟩] [];refine lN (kQ (bM 27 ((k:Nat)+1) (k+1) ?_));refine lL a ae (lD ?_);intro a_ S;refine ⟨_,_,?_,⟨k+1,(R).set k (vs.getD ((os.getD k 0).toNat) 0),Q,rfl,rfl,a.to _ _,oM,Z,(fun j B=>by rw[dL oM];split;(rename_i e;rw[e]);exact y j oM)⟩,S.to _ kR⟩
 omega
theorem CS {a:Rat}:0<a.num.sign↔0<a:=by
 rw[Rat.lt_iff]
 rcases KE a.num 0 with h|h|h
 ·rw[Kl h];simp;omega
 ·rw[h];simp
 ·rw[Km h];simpa using h
section ro
variable {w0:World}{h0:Hp}{w:World}{h:Hp}{B:List Bx}{R:List Rw}{F:List (Hp->Prop)}
theorem SS.ro_jk (s:SS w0 h0 w h B R F)(j:Nat){ty:TypeId}{sz c m:Nat}{A:Z9}{cs:List Value}(hr:R.getD j default=⟨ty,sz,A,c,m,cs⟩:=by kernel_rfl)(d:decide (j<R.length)=true:=by kernel_rfl):∀ b∈(Value.slice A m c).ownBlock.toList,h[b]?=some bc:=fun b e=>by
 have a:=oT d;have r:=s.ro _ (gx a);rw[mS hr a] at r
 exact r.jk b (K9.1 e)
theorem SS.ro_lt (s:SS w0 h0 w h B R F)(j:Nat){ty:TypeId}{sz c m:Nat}{A:Z9}{cs:List Value}(hr:R.getD j default=⟨ty,sz,A,c,m,cs⟩:=by kernel_rfl)(d:decide (j<R.length)=true:=by kernel_rfl):∀ b∈(Value.slice A m c).ownBlock.toList,b<h.size:=fun b e=>by
 have a:=oT d;have r:=s.ro _ (gx a);rw[mS hr a] at r
 exact aF (r.jk b (K9.1 e))
theorem SS.ro_ne (s:SS w0 h0 w h B R F)(q j:Nat){ty:TypeId}{sz c m:Nat}{A:Z9}{cs:List Value}(f:decide (q<B.length)=true:=by kernel_rfl)(hr:R.getD j default=⟨ty,sz,A,c,m,cs⟩:=by kernel_rfl)(d:decide (j<R.length)=true:=by kernel_rfl):(aw B q).b ∉ (Value.slice A m c).ownBlock.toList:=fun e=>by
 have a:=oT d;have r:=s.ro _ (gx a);rw[mS hr a] at r
 exact r.ap _ (K9.1 e) (List.mem_map.2 ⟨_,br (oT f),rfl⟩)
end ro
def cG (op n:Int)(a b:Rat):Int:=if i8 op n a b then (if jh op a b then 7 else 0) else 6
theorem i1:((1:Int):Rat)=1:=rfl
theorem i0:((0:Int):Rat)=0:=rfl
theorem DT:((-1:Int):Rat) = -1:=rfl
theorem Fr {f:Nat->Rat}{K m:Nat}(a:1<=K)(h:∀ i,LQ K (f i))(j:Nat):LQ K (((po m).map f).getD j 0):=by
 by_cases hj:j<m
 ·simp[hj];exact h j
 ·simp[hj];exact jd a
theorem de {c:Prop}[Decidable c]{a b:Rat}{k:Nat}(e:c->LQ k a)(d:¬c->LQ k b):LQ k (if c then a else b):=by
 by_cases h:c
 ·rw[if_pos h];exact e h
 ·rw[if_neg h];exact d h
theorem kv (l:List Stp)(at_:List Rat)(k:Nat):∀ n,k<=n->∀ j,j<k->(aR l at_ n).getD j 0=(aR l at_ k).getD j 0:=fun n a=>by
  induction a with
  | refl=>intro j _;rfl
  | @step n a ih =>
    intro j b;have c:k<=n:=a
    show (aR l at_ n++[_]).getD j 0=_
    rw[bj,eN,if_pos oM];exact ih j b
theorem wh {l:List Stp}{at_ L:List Rat}(h:L=aR l at_ l.length){k j:Nat}(a:j<k)(hk:k<=l.length):L.getD j 0=(aR l at_ k).getD j 0:=by rw[h];exact kv l at_ k _ hk j a
theorem CB {sm:Bool}{l:List Stp}{at_:List Rat}{n:Nat}(h:terr sm l at_ n=0):∀ k,k<n->eW sm (l.getD k aa) (aR l at_ k)=0:=by
  induction n with
  | zero=>intro k hk;omega
  | succ n ih =>
    intro k hk
    have b:terr sm l at_ n=0:=by
      refine Classical.byContradiction fun a=>?_
      have:terr sm l at_ (n+1)=terr sm l at_ n:=jD a 1;exact a (by rw[<-this];exact h)
    by_cases e:k=n
    . subst e
      have:terr sm l at_ (k+1)=eW sm (l.getD k aa) (aR l at_ k):=by show (if _=0 then _ else _)=_;rw[if_pos b]
      rw[<-this];exact h
    . exact ih b k oM
theorem HG {inp:Int}{sm:Bool}{l:List Stp}{at_:List Rat}{k n:Nat}(h:terr sm l at_ n=0)(hk:k<n)(_:∀ k,k<l.length->Formed inp k (l.getD k aa)):(l.getD k aa).op≠2->i8 (l.getD k aa).op (l.getD k aa).n ((aR l at_ k).getD (l.getD k aa).a.toNat 0) ((aR l at_ k).getD (l.getD k aa).b.toNat 0):=fun d=>by
 have:=CB h k hk;refine Classical.byContradiction fun c=>?_
 rw[wE d c] at this
 exact absurd this kD
theorem FB {l:List Stp}{at_ L:List Rat}{k:Nat}{s:Stp}(c:L=aR l at_ l.length)(f:s.op≠2->i8 s.op s.n ((aR l at_ k).getD s.a.toNat 0) ((aR l at_ k).getD s.b.toNat 0))(h:s.op≠2)(hk:k<=l.length)(o:s.op=6\/s.op=8->s.a.toNat<k)(j:s.op=6->s.b.toNat<k)(_:True:=trivial) :
  (s.op=6->L.getD s.b.toNat 0≠0)/\(s.op=8->s.n<0->L.getD s.a.toNat 0≠0):=by
 obtain ⟨i,d⟩:=f h;refine ⟨fun e=>?_,fun e e2=>?_⟩
 ·rw[wh c (j e) hk];exact i e
 ·rw[wh c (o (.inr e)) hk];exact d e e2
theorem EZ {D:List Rat}{k B:Nat}{x:Rat}(h:∀ j,LQ B (D.getD j 0))(a:LQ B x)(j:Nat):LQ B ((D.set k x).getD j 0):=by
 by_cases hk:k<D.length
 ·rw[dL hk];split
  ·exact a
  ·exact h j
 ·rw[La oM];exact h j
theorem pT {b d:List Rat}{a:Nat}{y:Rat}(c:a<b.length):∀ n,d9 (b.set a y) d n=d9 b d n+(if a<n then (y-b.getD a 0)*d.getD a 0 else 0)
  | 0=>by show (0:Rat)=0+_;rw[if_neg (K6 a)];grind
  | n+1=>by
    show d9 (b.set a y) d n+(b.set a y).getD n 0*d.getD n 0=(d9 b d n+b.getD n 0*d.getD n 0)+_
    rw[pT c n,dL c]
    rcases Lb a n with h|h|h
    . rw[if_neg (by omega:¬n=a),if_pos h,if_pos oM];grind
    . subst h;rw[if_pos rfl,if_neg (KZ _),if_pos oM];grind
    . rw[if_neg oM,if_neg oM,if_neg oM];grind
theorem fM {b d:List Rat}{a n:Nat}{y x:Rat}(f:a<b.length)(e:a<n)(c:y=b.getD a 0+x):d9 (b.set a y) d n=d9 b d n+x*d.getD a 0:=by
 rw[pT f,if_pos e,c];grind
theorem kC (l:List Stp)(at_ way:List Rat)(k:Nat):∀ n,k<=n->∀ j,j<k->(dO l at_ way n).getD j 0=(dO l at_ way k).getD j 0:=fun n a=>by
  induction a with
  | refl=>intro j _;rfl
  | @step n a ih =>
    intro j b;have c:k<=n:=a
    show (dO l at_ way n++[_]).getD j 0=_
    rw[bj,kf,if_pos oM];exact ih j b
section
variable {l:List Stp}{at_ way bar g:List Rat}{k:Nat}
theorem lm (hk:k<l.length)(b:Gu k (l.getD k aa)):(dO l at_ way l.length).getD k 0=np (l.getD k aa) way (aR l at_ l.length) (dO l at_ way l.length):=by
 rw[kC l at_ way (k+1) l.length oM k oM]
 show (dO l at_ way k++[_]).getD k 0=_
 rw[bj,kf,if_neg (KZ k),if_pos rfl]
 unfold np
 split
 ·rfl
 ·obtain ⟨a,c,d,_⟩:=b
  by_cases h:0<aK (l.getD k aa).op
  ·rw[if_pos h,if_pos h,<-kv l at_ k l.length oM _ (a h),<-kv l at_ k l.length oM _ (d h),<-kC l at_ way k l.length oM _ (a h)]
   by_cases h2:1<aK (l.getD k aa).op
   ·rw[if_pos h2,if_pos h2,<-kC l at_ way k l.length oM _ (c h2)]
   ·rw[if_neg h2,if_neg h2]
  ·rw[if_neg h,if_neg h,if_neg oM,if_neg oM]
def Bk (l:List Stp)(at_:List Rat)(inp:Nat)(T:List Rat->Rat)(k:Nat)(bar g:List Rat):Prop :=
  ∀ way,d9 bar (dO l at_ way l.length) k+d9 g way inp=T way
section
variable {inp:Nat}{T:List Rat->Rat}(B:Bk l at_ inp T (k+1) bar g)(hk:k<l.length)
include B
theorem Bk.skip (h0:bar.getD k 0=0):Bk l at_ inp T k bar g:=fun way=>by
 have:=B way
 change d9 bar _ k+bar.getD k 0*_+_=_ at this
 rw[h0] at this;rw[<-this];grind
theorem Bk.step {x:Rat}(d:∀ way,(dO l at_ way l.length).getD k 0=np (l.getD k aa) way (aR l at_ l.length) (dO l at_ way l.length))(a:x=bar.getD k 0):∀ way,d9 bar (dO l at_ way l.length) k+x*np (l.getD k aa) way (aR l at_ l.length) (dO l at_ way l.length)+d9 g way inp=T way:=fun way=>by
 have:=B way
 change d9 bar _ k+bar.getD k 0*_+_=_ at this
 rw[d way] at this
 rw[a];exact this
include hk
theorem Bk.name (a:Gu k (l.getD k aa))(b:(l.getD k aa).op=2)(c:(l.getD k aa).n.toNat<g.length)(hi:(l.getD k aa).n.toNat<inp):Bk l at_ inp T k bar (g.set (l.getD k aa).n.toNat (g.getD (l.getD k aa).n.toNat 0+bar.getD k 0)):=fun way=>by
 have:=B.step (fun way=>lm hk a) rfl way
 unfold np at this
 rw[if_pos b] at this
 rw[fM c hi rfl,<-this];grind
theorem Bk.num (b:Gu k (l.getD k aa))(c:(l.getD k aa).op≠2)(a:¬0<aK (l.getD k aa).op):Bk l at_ inp T k bar g:=fun way=>by
 have:=B.step (fun way=>lm hk b) rfl way
 unfold np at this
 rw[if_neg c,if_neg a,if_neg oM] at this
 rw[<-this];grind
theorem Bk.one {x:Rat}(c:Gu k (l.getD k aa))(e:(l.getD k aa).op≠2)(d:0<aK (l.getD k aa).op)(h:¬1<aK (l.getD k aa).op)(j:k<=bar.length)
  (i:x=j9 (l.getD k aa).op (l.getD k aa).n ((aR l at_ l.length).getD (l.getD k aa).a.toNat 0) ((aR l at_ l.length).getD (l.getD k aa).b.toNat 0)) :
  Bk l at_ inp T k (bar.set (l.getD k aa).a.toNat (bar.getD (l.getD k aa).a.toNat 0+bar.getD k 0*x)) g:=fun way=>by
 have:=B.step (fun way=>lm hk c) rfl way;have f:=c.1 d
 unfold np at this
 rw[if_neg e,if_pos d,if_neg h,<-i] at this
 rw[fM oM f rfl,<-this];grind
theorem Bk.two {x y:Rat}(d:Gu k (l.getD k aa))(j:(l.getD k aa).op≠2)(f:1<aK (l.getD k aa).op)(u:k<bar.length)
  (p:x=j9 (l.getD k aa).op (l.getD k aa).n ((aR l at_ l.length).getD (l.getD k aa).a.toNat 0) ((aR l at_ l.length).getD (l.getD k aa).b.toNat 0))
  (h:y=kL (l.getD k aa).op ((aR l at_ l.length).getD (l.getD k aa).a.toNat 0) ((aR l at_ l.length).getD (l.getD k aa).b.toNat 0)){c:List Rat}
  (h1:c=bar.set (l.getD k aa).a.toNat (bar.getD (l.getD k aa).a.toNat 0+bar.getD k 0*x)) :
  Bk l at_ inp T k (c.set (l.getD k aa).b.toNat (c.getD (l.getD k aa).b.toNat 0+c.getD k 0*y)) g:=fun way=>by
 have:=B.step (fun way=>lm hk d) rfl way;have o:=d.1 oM;have i:=d.2.1 f
 unfold np at this
 rw[if_neg j,if_pos oM,if_pos f,<-p,<-h] at this
 have e:c.getD k 0=bar.getD k 0:=by rw[h1,dL oM,if_neg oM]
 rw[fM (by rw[h1,JJ];omega) i rfl,e,h1,fM oM o rfl,<-this];grind
end
end
def rW (f:Nat->Nat)(a x:Nat):Nat->Nat:=fun j=>if j=a then f a+x else f j
def jV (wt f:Nat->Nat):Nat->Nat
  | 0=>0
  | k+1=>jV wt f k+f k*wt k
theorem iX (wt f:Nat->Nat)(a x:Nat):∀ k,jV wt (rW f a x) k=jV wt f k+(if a<k then x*wt a else 0)
  | 0=>by rw[if_neg (K6 a)];rfl
  | k+1=>by
    show jV wt (rW f a x) k+rW f a x k*wt k=jV wt f k+f k*wt k+_
    rw[iX wt f a x k];unfold rW
    rcases Lb a k with h|h|h
    . rw[if_pos h,if_neg (by omega:¬k=a),if_pos oM];omega
    . subst h;rw[if_neg (KZ _),if_pos rfl,if_pos oM,JG];omega
    . rw[if_neg oM,if_neg oM,if_neg oM];omega
theorem pJ (wt f:Nat->Nat):∀ k,(∀ j,j<k->1<=wt j)->∀ j,j<k->f j<=jV wt f k
  | k+1,hw,j,hj=>by
    show f j<=jV wt f k+f k*wt k
    by_cases e:j=k
    . subst e;have:=Jx (f j) (hw j hj);omega
    . have:=pJ wt f k (fun i hi=>hw i oM) j oM;omega
def Wt (l:List Stp)(wt:Nat->Nat):Prop:=∀ k,k<l.length->1<=wt k/\(0<aK (l.getD k aa).op->wt (l.getD k aa).a.toNat<=wt k)/\(1<aK (l.getD k aa).op->wt (l.getD k aa).a.toNat+wt (l.getD k aa).b.toNat<=wt k)
def qJ (wt sg:Nat->Nat):Nat->Nat:=jV wt (fun k=>sg k+2)
def Bz (wt sg:Nat->Nat)(C:Nat)(k:Nat)(bar g:List Rat):Prop :=
  ∃ f:Nat->Nat,∃ E,(∀ j,LQ (f j) (bar.getD j 0))/\(∀ j,LQ E (g.getD j 0))/\E+jV wt f k+qJ wt sg k<=C
section
variable {l:List Stp}{bar g:List Rat}{wt sg:Nat->Nat}{C k:Nat}
theorem o7 {f:Nat->Nat}{a x:Nat}{y:Rat}(h:∀ j,LQ (f j) (bar.getD j 0))(b:LQ (f a+x) y)(j:Nat):LQ (rW f a x j) ((bar.set a y).getD j 0):=by
 unfold rW
 by_cases ha:a<bar.length
 ·rw[dL ha]
  by_cases e:j=a
  ·rw[if_pos e,if_pos e];exact b
  ·rw[if_neg e,if_neg e];exact h j
 ·rw[La oM]
  by_cases e:j=a
  ·rw[if_pos e,e];exact (h a).mono oM
  ·rw[if_neg e];exact h j
theorem Bz.lb (Z:Bz wt sg C k bar g)(a:∀ j,j<k->1<=wt j):∀ j,j<k->LQ C (bar.getD j 0):=fun j b=>by
 obtain ⟨f,E,hf,c,d⟩:=Z;have:=pJ wt f k a j b;exact (hf j).mono oM
theorem Bz.lg (Z:Bz wt sg C k bar g):∀ j,LQ C (g.getD j 0):=fun j=>by
 obtain ⟨f,E,hf,a,b⟩:=Z;exact (a j).mono oM
theorem ot (wt sg:Nat->Nat)(k:Nat):qJ wt sg (k+1)=qJ wt sg k+(sg k+2)*wt k:=rfl
theorem Bz.skip (Z:Bz wt sg C (k+1) bar g):Bz wt sg C k bar g:=by
 obtain ⟨f,E,hf,b,a⟩:=Z;rw[ot] at a
 change E+(jV wt f k+_)+_<=_ at a
 exact ⟨f,E,hf,b,by omega⟩
theorem Bz.mul (Z:Bz wt sg C (k+1) bar g)(a:1<=wt k){x:Rat}(c:LQ (sg k) x):LQ C (bar.getD k 0*x):=by
 obtain ⟨f,E,hf,d,b⟩:=Z;rw[ot] at b
 change E+(jV wt f k+f k*wt k)+_<=_ at b
 have h1:=Jx (f k) a;have e:=Jx (sg k+2) a;exact ((hf k).mul c).mono oM
theorem Bz.name (Z:Bz wt sg C (k+1) bar g)(b:1<=wt k)(n:Nat):Bz wt sg C k bar (g.set n (g.getD n 0+bar.getD k 0)):=by
 obtain ⟨f,E,hf,a,c⟩:=Z;rw[ot] at c
 change E+(jV wt f k+f k*wt k)+_<=_ at c
 have h1:=Jx (f k) b;have d:=Jx (sg k+2) b;exact ⟨f,E+f k+1,hf,EZ (fun j=>(a j).mono oM) ((a n).add (hf k)),by omega⟩
theorem Bz.one (Z:Bz wt sg C (k+1) bar g){a:Nat}(h:wt a<=wt k)(b:a<k){x:Rat}(e:LQ (sg k) x):Bz wt sg C k (bar.set a (bar.getD a 0+bar.getD k 0*x)) g:=by
 obtain ⟨f,E,hf,d,c⟩:=Z;rw[ot] at c
 change E+(jV wt f k+f k*wt k)+_<=_ at c
 refine ⟨rW f a (f k+sg k+1),E,o7 hf (((hf a).add ((hf k).mul e)).mono oM),d,?_⟩;rw[iX,if_pos b];have h1:=Jx (f k+sg k+1) h;rw[show (f k+sg k+1)*wt k=f k*wt k+(sg k+1)*wt k by rw[show f k+sg k+1=f k+(sg k+1) by omega,JG]] at h1
 rw[JG (sg k) 2] at c
 rw[JG (sg k) 1] at h1
 omega
theorem Bz.two (Z:Bz wt sg C (k+1) bar g){a b:Nat}(B:1<=wt k)(o:∀ j,j<k->1<=wt j)(I:wt a+wt b<=wt k)(l:a<k)(i:b<k)(M:k<bar.length){x y:Rat}(L:LQ (sg k) x)(D:LQ (sg k) y){c:List Rat}(h1:c=bar.set a (bar.getD a 0+bar.getD k 0*x)) :
  LQ C (c.getD k 0)/\LQ C (c.getD b 0)/\LQ C (c.getD k 0*y)/\Bz wt sg C k (c.set b (c.getD b 0+c.getD k 0*y)) g:=by
 have e:c.getD k 0=bar.getD k 0:=by rw[h1,dL oM,if_neg oM]
 have J:=Z.mul B D
 have H:LQ C (bar.getD k 0):=by
  obtain ⟨f,E,hf,z,h⟩:=Z
  change E+(jV wt f k+f k*wt k)+_<=_ at h
  have h1:=Jx (f k) B;exact (hf k).mono oM
 rw[e];obtain ⟨f,E,hf,z,h⟩:=Z;rw[ot] at h
 change E+(jV wt f k+f k*wt k)+_<=_ at h
 have d:∀ j,LQ (rW f a (f k+sg k+1) j) (c.getD j 0):=by
  rw[h1];exact o7 hf (((hf a).add ((hf k).mul L)).mono oM)
 have F:jV wt (rW (rW f a (f k+sg k+1)) b (f k+sg k+1)) k<=jV wt f k+(f k*wt k+(sg k+1)*wt k):=by
  rw[iX,iX,if_pos l,if_pos i];have p:=Jx (f k+sg k+1) I;rw[Nat.mul_add,show (f k+sg k+1)*wt k=f k*wt k+(sg k+1)*wt k by rw[show f k+sg k+1=f k+(sg k+1) by omega,JG]] at p
  omega
 have u:rW f a (f k+sg k+1) b<=jV wt f k+(f k*wt k+(sg k+1)*wt k):=by
  have K:=pJ wt (rW f a (f k+sg k+1)) k o b i;rw[iX,if_pos l] at K
  have p:=Jx (f k+sg k+1) (show wt a<=wt k by omega);rw[show (f k+sg k+1)*wt k=f k*wt k+(sg k+1)*wt k by rw[show f k+sg k+1=f k+(sg k+1) by omega,JG]] at p
  omega
 refine ⟨H,(d b).mono ?_,J,rW (rW f a (f k+sg k+1)) b (f k+sg k+1),E,o7 d (((d b).add ((hf k).mul D)).mono oM),z,?_⟩
 ·rw[JG (sg k) 2] at h;rw[JG (sg k) 1] at u;omega
 ·rw[JG (sg k) 2] at h;rw[JG (sg k) 1] at F;omega
end
theorem Fe {c:Prop}[Decidable c]{a b:Rat}{k:Nat}(e:c->LQ k a)(d:¬c->LQ k b):LQ k (if c then a else b):=by
 by_cases h:c
 ·rw[if_pos h];exact e h
 ·rw[if_neg h];exact d h
section
variable {a b q:Rat}{op n:Int}{K M:Nat}
theorem Db (b:LQ K a)(c:n.natAbs<=M):LQ (M*K+2) (dX a n):=by
 have h1:LQ 1 (((1:Int):Rat)):=LQ.lit (z:=1) kD;have e:=yX K c
 unfold dX
 exact Fe (fun _=>(e9 b _).mono oM) fun _=>(h1.div (e9 b _)).mono oM
theorem CN (k:1<=K)(hM:2<=M)(i:M<=12)(h:LQ K a)(f:LQ K b)(c:op=8->n.natAbs<=M):LQ ((M+1)*K+5) (j9 op n a b):=by
 have h1:LQ 1 (((1:Int):Rat)):=LQ.lit (z:=1) kD;have h0:LQ ((M+1)*K+5) (0:Rat):=jd oM;have j:=i7 a.num;have d:=h1.div (h1.add h.abs);have e:=yX K (show 3<=M+1 by omega)
 unfold j9
 exact de (fun _=>h1.mono oM) fun _=>de (fun _=>h1.mono oM) fun _=>de (fun _=>f.mono oM) fun _=>de (fun _=>(h1.div f).mono oM) fun _=>de (fun _=>h1.neg.mono oM) fun _ =>
  de (fun e=>de (fun _=>h0) fun _=>((Db (n:=n-1) (M:=M+1) h (by have:=c e;omega)).mul (LQ.int (z:=n) (by have:=c e;omega) (by have:=c e;omega))).mono oM) fun _ =>
  de (fun _=>(LQ.int oM oM).mono oM) fun _=>de (fun _=>(LQ.int oM oM).mono oM) fun _=>de (fun _=>(d.mul d).mono oM) fun _ =>
  de (fun _=>de (fun _=>h1.mono oM) fun _=>h0) fun _=>de (fun _=>de (fun _=>h0) fun _=>h1.mono oM) fun _=>h0
theorem C0 (h:1<=K)(hM:2<=M)(d:LQ K a)(f:LQ K b):LQ ((M+1)*K+5) (kL op a b):=by
 have h1:LQ 1 (((1:Int):Rat)):=LQ.lit (z:=1) kD;have h0:LQ ((M+1)*K+5) (0:Rat):=jd oM;have c:=h1.div f;have e:=yX K (show 3<=M+1 by omega)
 unfold kL
 exact de (fun _=>h1.mono oM) fun _=>de (fun _=>h1.neg.mono oM) fun _=>de (fun _=>d.mono oM) fun _=>de (fun _=>((d.mul c).mul c).neg.mono oM) fun _ =>
  de (fun _=>de (fun _=>h0) fun _=>h1.mono oM) fun _=>de (fun _=>de (fun _=>h1.mono oM) fun _=>h0) fun _=>h0
end
def Jn (z:Nat)(l:List Stp):Prop:=∀ k,k<l.length->(l.getD k aa).op=8->(k=z -> -12<=(l.getD k aa).n/\(l.getD k aa).n<=12)/\(k≠z -> -1<=(l.getD k aa).n/\(l.getD k aa).n<=2)
theorem oK (a b:List Rat):∀ n,d9 a b n=d9 b a n
 | 0=>rfl
 | n+1=>by show d9 a b n+_=d9 b a n+_;rw[oK a b n,Rat.mul_comm]
theorem iy (m:Nat)(b:List Rat):∀ n,d9 (y2 m 0) b n=0
 | 0=>rfl
 | n+1=>by show d9 _ b n+_=_;rw[iy m b n,eD];grind
def bh (n j:Nat):List Rat:=(y2 n (0:Rat)).set j ((1:Int):Rat)
theorem uG {g:List Rat}{n j:Nat}(h:j<n):d9 g (bh n j) n=g.getD j 0:=by
 rw[oK];unfold bh;rw[fM (x:=((1:Int):Rat)) (by simpa using h) h (by rw[eD];grind),iy,show ((1:Int):Rat)=1 from rfl];grind
def rH (l:List Stp)(os:List Int)(at_ by_ way:List Rat):Rat:=d9 by_ (ge (dO l at_ way l.length) os) os.length
def fY (inp:Nat)(l:List Stp)(os:List Int)(at_ by_:List Rat):List Rat:=(po inp).map fun j=>rH l os at_ by_ (bh inp j)
def du (inp:Int)(l:List Stp)(os:List Int)(at_ by_:List Rat):Int:=if bZ inp l os=0 then (if (at_.length:Int)=inp/\by_.length=os.length then terr true l at_ l.length else 5) else 1
def bI (inp:Int)(l:List Stp)(os:List Int)(at_ by_:List Rat):List Rat:=if du inp l os at_ by_=0 then ge (aR l at_ l.length) os else []
def bR (inp:Int)(l:List Stp)(os:List Int)(at_ by_:List Rat):List Rat:=if du inp l os at_ by_=0 then fY inp.toNat l os at_ by_ else []
section
variable {inp:Int}{l:List Stp}{os:List Int}{at_ by_:List Rat}
theorem sw {e:Int}(h:du inp l os at_ by_=e)(a:e≠0):du inp l os at_ by_=e/\bI inp l os at_ by_=[]/\bR inp l os at_ by_=[] :=
 ⟨h,if_neg (by rw[h];exact a),if_neg (by rw[h];exact a)⟩
theorem xF (h:bZ inp l os≠0):du inp l os at_ by_=1/\bI inp l os at_ by_=[]/\bR inp l os at_ by_=[]:=sw (if_neg h) kD
theorem wS (h:bZ inp l os=0)(a:¬((at_.length:Int)=inp/\by_.length=os.length)):du inp l os at_ by_=5/\bI inp l os at_ by_=[]/\bR inp l os at_ by_=[]:=sw (by unfold du;rw[if_pos h,if_neg a]) kD
theorem FR (h:bZ inp l os=0)(b:(at_.length:Int)=inp)(a:by_.length=os.length)(c:terr true l at_ l.length≠0):du inp l os at_ by_=terr true l at_ l.length/\bI inp l os at_ by_=[]/\bR inp l os at_ by_=[]:=sw (by unfold du;rw[if_pos h,if_pos ⟨b,a⟩]) c
theorem FO (h:bZ inp l os=0)(b:(at_.length:Int)=inp)(c:by_.length=os.length)(a:terr true l at_ l.length=0):du inp l os at_ by_=0/\bI inp l os at_ by_=ge (aR l at_ l.length) os/\bR inp l os at_ by_=fY inp.toNat l os at_ by_:=by
 have e:du inp l os at_ by_=0:=by unfold du;rw[if_pos h,if_pos ⟨b,c⟩,a]
 exact ⟨e,if_pos e,if_pos e⟩
end
theorem wF {vs:List Rat}{os:List Int}{i:Nat}(h:i<os.length):(ge vs os).getD i 0=vs.getD (os.getD i 0).toNat 0:=by
 unfold ge;simp[A4,h]
def Bo (l:List Stp)(os:List Int)(at_ by_:List Rat)(i:Nat)(bar:List Rat):Prop :=
  ∀ way,d9 bar (dO l at_ way l.length) l.length=d9 by_ (ge (dO l at_ way l.length) os) i
def Bos (wt:Nat->Nat)(n W i:Nat)(bar:List Rat):Prop:=∃ f:Nat->Nat,(∀ j,LQ (f j) (bar.getD j 0))/\jV wt f n<=jV wt (fun _=>1) n+i*(2*W)
section
variable {l:List Stp}{os:List Int}{at_ by_ bar:List Rat}{i:Nat}
theorem Bo.init:Bo l os at_ by_ 0 (y2 l.length 0):=fun way=>by rw[iy];rfl
theorem Bo.step (B:Bo l os at_ by_ i bar)(hi:i<os.length)(a:(os.getD i 0).toNat<l.length)(b:bar.length=l.length):Bo l os at_ by_ (i+1) (bar.set (os.getD i 0).toNat (bar.getD (os.getD i 0).toNat 0+by_.getD i 0)):=fun way=>by
 show _=d9 by_ _ i+_
 rw[fM oM a rfl,B way,wF hi]
theorem Bos.init (wt:Nat->Nat)(n W:Nat):Bos wt n W 0 (y2 n 0):=⟨fun _=>1,fun j=>by rw[eD];exact jd (k:=1) (ey 1),Lc _ _⟩
theorem Bos.step {wt:Nat->Nat}{n W o:Nat}{y:Rat}(Z:Bos wt n W i bar)(a:o<n)(c:wt o<=W)(b:LQ 1 y):Bos wt n W (i+1) (bar.set o (bar.getD o 0+y)):=by
 obtain ⟨f,hf,d⟩:=Z;refine ⟨rW f o 2,o7 hf ((hf o).add b),?_⟩;rw[iX,if_pos a,JG];omega
theorem Bos.lb {wt:Nat->Nat}{n W C:Nat}(Z:Bos wt n W i bar)(a:∀ j,j<n->1<=wt j)(d:jV wt (fun _=>1) n+i*(2*W)<=C):∀ j,j<n->LQ C (bar.getD j 0):=fun j b=>by
 obtain ⟨f,hf,c⟩:=Z;have:=pJ wt f n a j b;exact (hf j).mono oM
theorem Bos.bz {wt sg:Nat->Nat}{n W C inp:Nat}(Z:Bos wt n W i bar)(b:1+jV wt (fun _=>1) n+i*(2*W)+qJ wt sg n<=C):Bz wt sg C n bar (y2 inp 0):=by
 obtain ⟨f,hf,a⟩:=Z;exact ⟨f,1,hf,fun j=>by rw[eD];exact jd oM,by omega⟩
theorem Bo.bk (B:Bo l os at_ by_ os.length bar)(inp:Nat):Bk l at_ inp (rH l os at_ by_) l.length bar (y2 inp 0):=fun way=>by
 rw[B way,iy,Rat.add_zero];rfl
theorem Bk.fin {inp:Nat}{g:List Rat}(B:Bk l at_ inp (rH l os at_ by_) 0 bar g)(a:g.length=inp):g=fY inp l os at_ by_/\∀ way,d9 g way inp=rH l os at_ by_ way:=by
 have h1:∀ way,d9 g way inp=rH l os at_ by_ way:=fun way=>by
  have:=B way
  change (0:Rat)+_=_ at this
  rw[<-this];grind
 refine ⟨fp (by unfold fY;rw[K7,Le,a]) fun j=>?_,h1⟩
 by_cases hj:j<inp
 ·unfold fY
  rw[<-uG hj,h1];simp[hj]
 ·rw[bG oM,bG (by unfold fY;rw[K7,Le];omega)]
end
theorem wx {α:Type}{l:List α}{i:Nat}{d:α}(h:i<l.length):l.getD i d∈l:=by
 rw[A4,List.getElem?_eq_getElem h];exact gx h
theorem uL {α:Type}{l:List α}{i:Nat}{d:α}(h:l.length<=i):l.getD i d=d:=by
 rw[A4,x4 h];rfl
def eo (s:ByteArray):List Value:=[.string s]
inductive Tm where
  | mk (op n:Int) (q:Rat) (s:ByteArray) (ks:List Tm)
def Tm.op:Tm->Int|.mk op _ _ _ _=>op
def Tm.n:Tm->Int|.mk _ n _ _ _=>n
def Tm.q:Tm->Rat|.mk _ _ q _ _=>q
def Tm.s:Tm->ByteArray|.mk _ _ _ s _=>s
def Tm.ks:Tm->List Tm|.mk _ _ _ _ ks=>ks
def aG:Tm:=.mk 0 0 0 ⟨#[]⟩ []
structure PTm where
  op:Int
  n:Int
  q:Rat
  s:ByteArray
  A:Z9
  m:Nat
  c:Nat
abbrev pX (p:PTm):Value:=.agg #[iV p.op,iV p.n,.bool (av p.q.num),uV (lo (ac p.q.num)),.string (hi (ac p.q.num)),uV (lo (qd p.q)),.string (hi (qd p.q)),.string p.s,.slice p.A p.m p.c]
abbrev pC (p:PTm):List Value:=[iV p.op,iV p.n,.bool (av p.q.num),uV (lo (ac p.q.num)),.string (hi (ac p.q.num)),uV (lo (qd p.q)),.string (hi (qd p.q)),.string p.s,.slice p.A p.m p.c]
abbrev pW (o n:Int)(q:Rat)(s:ByteArray)(A:Z9)(m c:Nat):Value:=.agg #[iV o,iV n,.bool (av q.num),uV (lo (ac q.num)),.string (hi (ac q.num)),uV (lo (qd q)),.string (hi (qd q)),.string s,.slice A m c]
abbrev pG (o n:Int)(q:Rat)(s:ByteArray)(A:Z9)(m c:Nat):List Value:=[iV o,iV n,.bool (av q.num),uV (lo (ac q.num)),.string (hi (ac q.num)),uV (lo (qd q)),.string (hi (qd q)),.string s,.slice A m c]
def bA:PTm:=⟨0,0,0,⟨#[]⟩,none,0,0⟩
def dr (p:PTm):List Value:=[.int .i64 p.op,.int .i64 p.n,.bool (av p.q.num),.int .u64 (lo (ac p.q.num)),.string (hi (ac p.q.num)),.int .u64 (lo (qd p.q)),.string (hi (qd p.q)),.string p.s,.slice p.A p.m p.c]
def dl (p:PTm):Value:=.agg #[.int .i64 p.op,.int .i64 p.n,.bool (av p.q.num),.int .u64 (lo (ac p.q.num)),.string (hi (ac p.q.num)),.int .u64 (lo (qd p.q)),.string (hi (qd p.q)),.string p.s,.slice p.A p.m p.c]
def TmH:Nat->Hp->PTm->Tm->Prop
  | 0,_,_,_=>False
  | d+1,h,p,t=>p.op=t.op/\p.n=t.n/\p.q=t.q/\p.s=t.s/\p.m=t.ks.length/\p.m<=p.c/\∃ ps:List PTm,ps.length=t.ks.length/\SlO 9 dr bA h p.A ps/\∀ i,i<t.ks.length->TmH d h (ps.getD i bA) (t.ks.getD i aG)
theorem TmH.gw:∀ {d:Nat} {h h':Hp} {p:PTm} {t:Tm},TmH d h p t->Gw h h'->TmH d h' p t
 | 0,_,_,_,_,x,_=>x
 | d+1,_,_,_,_,⟨h1,h2,h3,h4,h5,h6,ps,h7,h8,h9⟩,u=>⟨h1,h2,h3,h4,h5,h6,ps,h7,h8.gw u,fun i hi=>TmH.gw (h9 i hi) u⟩
structure RTm where
  op:Int
  n:Int
  neg:Bool
  zA:Z9
  zn:Nat
  zc:Nat
  dA:Z9
  dn:Nat
  dc:Nat
  s:ByteArray
  A:Z9
  m:Nat
  c:Nat
def RTm.t (r:RTm):RT:=(r.neg,.slice r.zA r.zn r.zc,.slice r.dA r.dn r.dc)
def iA:RTm:=⟨0,0,false,none,0,0,none,0,0,⟨#[]⟩,none,0,0⟩
def d4 (r:RTm):List Value:=[.int .i64 r.op,.int .i64 r.n,.bool r.neg,.slice r.zA r.zn r.zc,.slice r.dA r.dn r.dc,.string r.s,.slice r.A r.m r.c]
def eM (r:RTm):Value:=.agg #[.int .i64 r.op,.int .i64 r.n,.bool r.neg,.slice r.zA r.zn r.zc,.slice r.dA r.dn r.dc,.string r.s,.slice r.A r.m r.c]
def RZ (h:Hp)(t:RT)(q:Rat):Prop:=∃ has:Bool,RP h (GW t) q.num (if has then q.den else 0)/\(has=false->q=0)
theorem RZ.gw {h h':Hp}{t:RT}{q:Rat}(x:RZ h t q)(u:Gw h h'):RZ h' t q:=by
 obtain ⟨a,h1,b⟩:=x;exact ⟨a,h1.gw u,b⟩
def RmH:Nat->Hp->RTm->Tm->Prop
  | 0,_,_,_=>False
  | d+1,h,r,t=>r.op=t.op/\r.n=t.n/\RZ h r.t t.q/\r.s=t.s/\r.m=t.ks.length/\r.m<=r.c/\∃ rs:List RTm,rs.length=t.ks.length/\SlO 7 d4 iA h r.A rs/\∀ i,i<t.ks.length->RmH d h (rs.getD i iA) (t.ks.getD i aG)
theorem E1 {h:Hp}{b:Bool}{l u:Z9}{i o f j:Nat}{q:Rat}(x:RZ h (b,.slice l i o,.slice u f j) q)(p:0<f):RP h (.agg #[.bool b,.slice l i o,.slice u f j]) q.num q.den:=by
 obtain ⟨y,h1,z⟩:=x;cases y
 ·obtain ⟨A,c,D,d,e,F,hd,C,B⟩:=h1
  injection e with e
  have k:=congrArg (fun a:Array Value=>a.toList) e
  simp at k
  have:f=(lim 0).length:=k.2.2.2.1;have h0:(lim 0).length=0:=by have:=@d6 0;omega
  omega
 ·exact h1
theorem Hb {h:Hp}{b:Bool}{l u:Z9}{j o k:Nat}{q:Rat}(x:RZ h (b,.slice l j o,.slice u 0 k) q):q=0:=by
 obtain ⟨p,h1,i⟩:=x;cases p
 ·exact i rfl
 ·obtain ⟨A,c,D,d,e,C,hd,B,y⟩:=h1
  injection e with e
  have f:=congrArg (fun a:Array Value=>a.toList) e
  simp at f
  have F:0=(lim q.den).length:=f.2.2.2.1;have z:=(@d6 q.den).2 q.den_pos
  omega
theorem RmH.gw:∀ {d:Nat} {h h':Hp} {r:RTm} {t:Tm},RmH d h r t->Gw h h'->RmH d h' r t
 | 0,_,_,_,_,x,_=>x
 | d+1,_,_,_,_,⟨h1,h2,h3,h4,h5,h6,ps,h7,h8,h9⟩,u=>⟨h1,h2,h3.gw u,h4,h5,h6,ps,h7,h8.gw u,fun i hi=>RmH.gw (h9 i hi) u⟩
structure Tms (d:Nat) (h:Hp) (ps:List PTm) (ts:List Tm):Prop where
  len:ps.length=ts.length
  at_:∀ i,i<ts.length->TmH d h (ps.getD i bA) (ts.getD i aG)
theorem Tms.gw {d:Nat}{h h':Hp}{a:List PTm}{ts:List Tm}(x:Tms d h a ts)(u:Gw h h'):Tms d h' a ts:=⟨x.len,fun i hi=>(x.at_ i hi).gw u⟩
structure Rms (d:Nat) (h:Hp) (rs:List RTm) (ts:List Tm):Prop where
  len:rs.length=ts.length
  at_:∀ i,i<ts.length->RmH d h (rs.getD i iA) (ts.getD i aG)
theorem Rms.gw {d:Nat}{h h':Hp}{a:List RTm}{ts:List Tm}(x:Rms d h a ts)(u:Gw h h'):Rms d h' a ts:=⟨x.len,fun i hi=>(x.at_ i hi).gw u⟩
theorem Rms.snoc {d:Nat}{h:Hp}{a:List RTm}{ts:List Tm}{r:RTm}{t:Tm}(x:Rms d h a ts)(y:RmH d h r t):Rms d h (a++[r]) (ts++[t]):=by
 refine ⟨by simp[x.len],fun i hi=>?_⟩;rw[yR,K8] at hi
 rw[bj,bj,x.len]
 by_cases e:i<ts.length
 ·rw[if_pos e,if_pos e];exact x.at_ i e
 ·rw[if_neg e,if_neg e,if_pos oM,if_pos oM];exact y
theorem Tms.nil {d:Nat}{h:Hp}:Tms d h [] []:=⟨rfl,fun i hi=>by simp at hi⟩
theorem Tms.snoc {d:Nat}{h:Hp}{a:List PTm}{ts:List Tm}{r:PTm}{t:Tm}(x:Tms d h a ts)(y:TmH d h r t):Tms d h (a++[r]) (ts++[t]):=by
 refine ⟨by simp[x.len],fun i hi=>?_⟩;rw[yR,K8] at hi
 rw[bj,bj,x.len]
 by_cases e:i<ts.length
 ·rw[if_pos e,if_pos e];exact x.at_ i e
 ·rw[if_neg e,if_neg e,if_pos oM,if_pos oM];exact y
theorem TmH.mk {d:Nat}{h:Hp}{op n:Int}{q:Rat}{s:ByteArray}{A:Z9}{c:Nat}{a:List PTm}{ks:List Tm}(x:Tms d h a ks)(b:a.length<=c)(e:SlO 9 dr bA h A a):TmH (d+1) h ⟨op,n,q,s,A,a.length,c⟩ (.mk op n q s ks) :=
 ⟨rfl,rfl,rfl,rfl,x.len,b,a,x.len,e,x.at_⟩
theorem TmH.open {d:Nat}{h:Hp}{p:PTm}{t:Tm}(x:TmH (d+1) h p t):∃ op n q s A c,∃ a:List PTm,∃ ks:List Tm,p=⟨op,n,q,s,A,a.length,c⟩/\t=.mk op n q s ks/\a.length<=c/\SlO 9 dr bA h A a/\Tms d h a ks:=by
  obtain ⟨op,n,q,s,A,m,c⟩:=p;cases t with
  | mk op2 n2 q2 s2 ks =>
    obtain ⟨h1,f,o,k,e,l,a,b,j,i⟩:=x;obtain rfl:op=op2:=h1;obtain rfl:n=n2:=f;obtain rfl:q=q2:=o;obtain rfl:s=s2:=k;obtain rfl:m=a.length:=(show m=ks.length from e).trans b.symm;exact ⟨op,n,q,s,A,c,a,ks,rfl,rfl,l,j,b,i⟩
theorem RmH.open {d:Nat}{h:Hp}{p:RTm}{t:Tm}(x:RmH (d+1) h p t):∃ op n b j e k l f i q s A c,∃ a:List RTm,∃ ks:List Tm,p=⟨op,n,b,j,e,k,l,f,i,s,A,a.length,c⟩/\t=.mk op n q s ks/\RZ h (b,.slice j e k,.slice l f i) q/\a.length<=c/\SlO 7 d4 iA h A a/\Rms d h a ks:=by
  obtain ⟨op,n,b,j,e,k,l,f,i,s,A,m,c⟩:=p;cases t with
  | mk op2 n2 q2 s2 ks =>
    obtain ⟨h1,y,F,C,u,D,a,o,B,z⟩:=x;obtain rfl:op=op2:=h1;obtain rfl:n=n2:=y;obtain rfl:s=s2:=C;obtain rfl:m=a.length:=(show m=ks.length from u).trans o.symm;exact ⟨op,n,b,j,e,k,l,f,i,q2,s,A,c,a,ks,rfl,rfl,F,D,B,o,z⟩
def cw (f:Nat->Nat):Nat->Nat
  | 0=>0
  | k+1=>cw f k+f k
def bD (n:Int):Nat:=if n.natAbs<=1 then 1 else n.natAbs
def dd:Nat->Tm->Nat
  | 0,_=>0
  | d+1,t=>if t.ks.length=0 then 1 else (if t.op=11 then 2 else if t.op=8 then bD t.n else 1)*cw (fun i=>dd d (t.ks.getD i aG)) t.ks.length
def WfT (ok:ByteArray->Prop):Nat->Tm->Prop
  | 0,_=>False
  | d+1,t=>aK t.op=t.ks.length/\(t.op≠1->t.q=0)/\LQ 3000 t.q/\(t.op=2->ok t.s)/\(t.op≠2->t.s=⟨#[]⟩)/\(t.op≠8->t.n=0) /\ -12<=t.n/\t.n<=12/\∀ i,i<t.ks.length->WfT ok d (t.ks.getD i aG)
def vn (sm:ByteArray->Prop):Nat->Tm->Prop
  | 0,_=>False
  | d+1,t=>t.ks.length<=3/\(-1000<=t.op/\t.op<=1000)/\(-1000<=t.n/\t.n<=1000)/\LQ 3000 t.q/\sm t.s/\∀ i,i<t.ks.length->vn sm d (t.ks.getD i aG)
theorem WfT.sm {ok sm:ByteArray->Prop}(h:∀ s,ok s->sm s)(h0:sm ⟨#[]⟩):∀ {d:Nat} {t:Tm},WfT ok d t->vn sm d t
  | d+1,t,⟨h1,h2,h3,h4,h5,h6,h7,h8,h9⟩=>by
    have a:=aA t.op;refine ⟨by omega,⟨by omega,by omega⟩,⟨by omega,by omega⟩,h3,?_,fun i hi=>WfT.sm h h0 (h9 i hi)⟩
    by_cases e:t.op=2
    . exact h _ (h4 e)
    . rw[h5 e];exact h0
def WfT1 (ok:ByteArray->Prop):Nat->Tm->Prop
  | 0,_=>False
  | d+1,t=>aK t.op=t.ks.length/\(t.op≠1->t.q=0)/\LQ 1 t.q/\(t.op=2->ok t.s)/\(t.op≠2->t.s=⟨#[]⟩)/\(t.op≠8->t.n=0) /\ -12<=t.n/\t.n<=12/\∀ i,i<t.ks.length->WfT1 ok d (t.ks.getD i aG)
theorem WfT1.wf {ok:ByteArray->Prop}:∀ {d:Nat} {t:Tm},WfT1 ok d t->WfT ok d t
 | _+1,_,⟨h1,h2,h3,h4,h5,h6,h7,h8,h9⟩=>⟨h1,h2,h3.mono kD,h4,h5,h6,h7,h8,fun i hi=>WfT1.wf (h9 i hi)⟩
def SmT1 (sm:ByteArray->Prop):Nat->Tm->Prop
  | 0,_=>False
  | d+1,t=>t.ks.length<=3/\(-1000<=t.op/\t.op<=1000)/\(-1000<=t.n/\t.n<=1000)/\LQ 1 t.q/\sm t.s/\∀ i,i<t.ks.length->SmT1 sm d (t.ks.getD i aG)
theorem SmT1.sm {sm:ByteArray->Prop}:∀ {d:Nat} {t:Tm},SmT1 sm d t->vn sm d t
 | _+1,_,⟨h1,h2,h3,h4,h5,h6⟩=>⟨h1,h2,h3,h4.mono kD,h5,fun i hi=>SmT1.sm (h6 i hi)⟩
theorem WfT1.sm {ok sm:ByteArray->Prop}(h:∀ s,ok s->sm s)(h0:sm ⟨#[]⟩):∀ {d:Nat} {t:Tm},WfT1 ok d t->SmT1 sm d t
  | d+1,t,⟨h1,h2,h3,h4,h5,h6,h7,h8,h9⟩=>by
    have a:=aA t.op;refine ⟨by omega,⟨by omega,by omega⟩,⟨by omega,by omega⟩,h3,?_,fun i hi=>WfT1.sm h h0 (h9 i hi)⟩
    by_cases e:t.op=2
    . exact h _ (h4 e)
    . rw[h5 e];exact h0
def Ij (isb:ByteArray->Bool)(op n:Int)(q:Rat)(s:ByteArray)(m:Nat):Prop:=aK op=m/\(op=1\/q.num=0)/\((op=2->isb s=true)/\(op≠2->s=⟨#[]⟩))/\((op=8\/n=0) /\ -12<=n/\n<=12)
section
variable {isb:ByteArray->Bool}{d:Nat}{op n:Int}{q:Rat}{s:ByteArray}{ks:List Tm}
theorem BC (w:WfT (fun s=>isb s=true) (d+1) (.mk op n q s ks)):Ij isb op n q s ks.length:=by
 obtain ⟨h1,f,j,c,b,h,i,a,k⟩:=w;refine ⟨h1,?_,⟨c,b⟩,?_,i,a⟩
 ·by_cases e:op=1
  ·exact .inl e
  ·exact .inr (KY.2 (f e))
 ·by_cases e:op=8
  ·exact .inl e
  ·exact .inr (h e)
theorem uu (h:¬Ij isb op n q s ks.length):∃ a,Value.bool false=.bool a/\(a=true↔WfT (fun s=>isb s=true) (d+1) (.mk op n q s ks)):=⟨false,rfl,fun b=>(by cases b),fun w=>absurd (BC w) h⟩
theorem Hc {k:Nat}(hk:k<ks.length){bk:Bool}(a:bk=false)(h:bk=true↔WfT (fun s=>isb s=true) d (ks.getD k aG)):∃ b,Value.bool false=.bool b/\(b=true↔WfT (fun s=>isb s=true) (d+1) (.mk op n q s ks)):=⟨false,rfl,fun e=>(by cases e),fun ⟨_,_,_,_,_,_,_,_,c⟩=>by rw[h.2 (c k hk)] at a;cases a⟩
theorem GF (h:Ij isb op n q s ks.length)(k:LQ 3000 q)(b:∀ i,i<ks.length->WfT (fun s=>isb s=true) d (ks.getD i aG)):∃ a,Value.bool true=.bool a/\(a=true↔WfT (fun s=>isb s=true) (d+1) (.mk op n q s ks)):=by
 obtain ⟨h1,l,⟨j,c⟩,o,p,f⟩:=h;refine ⟨true,rfl,fun _=>⟨h1,fun e=>KY.1 (l.resolve_left e),k,j,c,fun e=>o.resolve_left e,p,f,b⟩,fun _=>rfl⟩
end
def pi (nm:Int->ByteArray)(l:List Stp):Nat->Nat->Tm
  | 0,_=>aG
  | f+1,i =>
    if (l.getD i aa).op=2 then .mk 2 0 0 (nm (l.getD i aa).n) []
    else if aK (l.getD i aa).op=1 then .mk (l.getD i aa).op (l.getD i aa).n 0 ⟨#[]⟩ [pi nm l f (l.getD i aa).a.toNat]
    else if aK (l.getD i aa).op=2 then .mk (l.getD i aa).op 0 0 ⟨#[]⟩ [pi nm l f (l.getD i aa).a.toNat,pi nm l f (l.getD i aa).b.toNat]
    else .mk (l.getD i aa).op 0 (l.getD i aa).q ⟨#[]⟩ []
theorem jH {nm:Int->ByteArray}{l:List Stp}{inp:Int}(a:∀ k,k<l.length->Formed inp k (l.getD k aa)):∀ (f g i:Nat),i<f->i<g->i<l.length->pi nm l f i=pi nm l g i
  | f + 1,g+1,i,hf,hg,hi=>by
    obtain ⟨c,d,o,_⟩:=(a i hi).opr
    unfold pi
    split
    . rfl
    . split
      . rename_i h1
        have e:=c oM;rw[jH a f g _ oM oM oM]
      . split
        . rename_i h1 h
          have e:=c oM;have j:=d oM;rw[jH a f g _ oM oM oM,jH a f g (l.getD i aa).b.toNat oM oM oM]
        . rfl
structure MapJ (h0:Hp) (B:List Bx) (w:World) (h:Hp) (b:Nat) (es:List MapEntry) (clk:Nat):Prop where
  obj:w.heap[b]?=some (.map es.toArray clk)
  jk:h[b]?=some bc
  lo:h0.size<=b
  nb:∀ x∈B,x.b≠b
def MapS (h:Hp)(b:Nat)(es:List MapEntry):Prop:=∃ clk,h[b]?=some (.map es.toArray clk)
theorem MapS.gw {h h':Hp}{b:Nat}{a:List MapEntry}(x:MapS h b a)(u:Gw h h'):MapS h' b a:=by
 obtain ⟨c,e⟩:=x;refine ⟨c,?_⟩
 rcases u.blk b (aF e) with k|k
 ·exact k.trans e
 ·rw[e] at k;cases k
theorem MapS.w {w:World}{h:Hp}{b:Nat}{d:List MapEntry}(x:MapS h b d)(g:G w h):∃ a,w.heap[b]?=some (.map d.toArray a):=by
 obtain ⟨c,e⟩:=x;refine ⟨c,?_⟩
 rcases g.blk b with k|k
 ·rw[<-k];exact e
 ·rw[e] at k;cases k
theorem tq {P:Program}(w:World){mty kt et:TypeId}{b a:Nat}{c:Array MapEntry}{s:ByteArray}{val:Value}(e:P.underlying mty=some (.map kt et))(hk:P.underlying kt=some .string)(d:w.heap[b]?=some (.map c a))(hf:Instr.findNow .string (.string s) c.toList 0=some none) :
  (Instr.mapUpdate mty (.map (some b)) (.string s) val).run P w=.ok () { w with heap:=w.heap.setIfInBounds b (.map (c.push { key:=.string s,val:=val,born:=a }) (a+1)) }:=by
 have f:(Instr.checkKey false 10000 kt (.string s)).run P w=.ok () w:=MapKept.run_checkKey (k:=.string s) hk (by simp[MapKept.IsKey]) false 9999
 simp[Instr.mapUpdate,run_underlying e,MapKept.run_getObj_map d,f,MapKept.run_findKey hk hf,MapKept.run_setObj_map _ d,Result.andThen]
theorem qA {P:Program}(w:World){mty kt et:TypeId}{b a i:Nat}{c:Array MapEntry}{s:ByteArray}{val l:Value}(h:P.underlying mty=some (.map kt et))(hk:P.underlying kt=some .string)(d:w.heap[b]?=some (.map c a))(hf:Instr.findNow .string (.string s) c.toList 0=some (some (i,l)))(p:((c[i]?).map (·.key)).getD (.string s)=.string s) :
  (Instr.mapUpdate mty (.map (some b)) (.string s) val).run P w=.ok () { w with heap:=w.heap.setIfInBounds b (.map (c.modify i fun e=>{ e with key:=.string s,val:=val }) a) }:=by
 have f:(Instr.checkKey false 10000 kt (.string s)).run P w=.ok () w:=MapKept.run_checkKey (k:=.string s) hk (by simp[MapKept.IsKey]) false 9999;have o:(s == s)=true:=by first|exact beq_self_eq_true s|(show (s.data == s.data)=true;exact beq_self_eq_true _)|(cases s;rfl)
 have j:Instr.sameBits 10000 (.string s) (.string s)=true:=by simp[Instr.sameBits,o]
 simp[Instr.mapUpdate,run_underlying h,MapKept.run_getObj_map d,f,MapKept.run_findKey hk hf,MapKept.run_setObj_map _ d,Result.andThen,p,Instr.keyThatStays,j]
theorem xL {P:Program}(w:World){mty kt et:TypeId}{b c:Nat}{a:Array MapEntry}{s:ByteArray}(ok:Bool){v:Value}{found:Bool}(d:P.underlying mty=some (.map kt et))(hk:P.underlying kt=some .string)(f:w.heap[b]?=some (.map a c))
  (hf:(∃ i,Instr.findNow .string (.string s) a.toList 0=some (some (i,v))/\found=true)\/(Instr.findNow .string (.string s) a.toList 0=some none/\found=false/\(zeroValue et).run P w=.ok v w)) :
  (Instr.lookup mty (.map (some b)) (.string s) ok).run P w=.ok (if ok then .tuple #[v,.bool found] else v) w:=by
 have e:(Instr.checkKey a.isEmpty 10000 kt (.string s)).run P w=.ok () w:=MapKept.run_checkKey (k:=.string s) hk (by simp[MapKept.IsKey]) _ 9999
 rcases hf with ⟨i,hf,rfl⟩|⟨hf,rfl,hz⟩
 ·simp[Instr.lookup,run_underlying d,MapKept.run_getObj_map f,e,MapKept.run_findKey hk hf,Result.andThen]
 ·simp[Instr.lookup,run_underlying d,MapKept.run_getObj_map f,e,MapKept.run_findKey hk hf,hz,Result.andThen]
theorem tR {w:World}{b:Nat}{o o':Obj}(e:w.heap[b]?=some o):Put b w { w with heap:=w.heap.setIfInBounds b o' }/\({ w with heap:=w.heap.setIfInBounds b o' }:World).heap[b]?=some o':=by
 have a:b<w.heap.size:=(Array.getElem?_eq_some_iff.1 e).1;refine ⟨⟨rfl,rfl,rfl,by simp,fun c d=>by show (w.heap.setIfInBounds b o')[c]?=_;rw[oi (Ne.symm d)]⟩,?_⟩
 show (w.heap.setIfInBounds b o')[b]?=_
 rw[zF a]
section laws
variable {P:Program}{n:Nat}{N R:Po}{X:Nat->Po}{ops:Array Oper}{k:Nat}{Γ:cH}{w:World}{h:Hp}{w0:World}{h0:Hp}{B:List Bx}{Rs:List Rw}{F:List (Hp->Prop)}
theorem SS.pokeJ (s:SS w0 h0 w h B [] F){b:Nat}{w':World}(e:h[b]?=some bc)(c:h0.size<=b)(d:∀ x∈B,x.b≠b)(p:Put b w w'):SS w0 h0 w' h B [] F :=
 ⟨s.g0,⟨s.st.up.put p e c s.g0.size,fun x a=>(p.blk _ (d x a)).trans (s.st.own x a),s.st.jk,s.st.lo,s.st.nd⟩,fun _ a=>(by cases a),.nil,s.mo,s.f⟩
theorem Ge (t:Nat)(s:SS w0 h0 w h B Rs F)(H:∀ b w' h',SS w0 h0 w' h' B Rs F->MapJ h0 B w' h' b [] 0->LG P n N R X ops (k+1) ((t,.map (some b))::Γ) w')(a:cL ops Γ k t n=true:=by kernel_rfl)
  (hr:(execOp (ev Γ) (am ops k)).run P w=.ok (.value (.map (some w.heap.size))) (w.alloc (.map #[] 0)):=by kernel_rfl):LG P n N R X ops k Γ w:=by
 have u:Up w h (w.alloc (.map #[] 0)) (h.push bc):=Up.allocAny s.g _ _ (.inr rfl);refine LG.val t _ _ (bF a).1 (bF a).2 hr (H _ _ _ (s.step u) ⟨?_,?_,?_,fun x c e=>?_⟩)
 ·rw[heap_alloc];exact gp
 ·rw[s.g.size];exact gp
 ·rw[s.g.size];exact s.st.sz
 ·have:=aF (s.st.jk x c)
  have:=s.g.size
  omega
theorem nE {b a:Nat}{c:List MapEntry}(mty kt et:TypeId)(ky:ByteArray)(val:Value)(s:SS w0 h0 w h B [] F)(m:MapJ h0 B w h b c a)(H:∀ w',SS w0 h0 w' h B [] F->MapJ h0 B w' h b (c++[⟨.string ky,val,a⟩]) (a+1)->LG P n N R X ops (k+1) Γ w')
  (d:cS ops Γ k=true:=by kernel_rfl)(i:execOp (ev Γ) (am ops k)=(do Instr.mapUpdate mty (.map (some b)) (.string ky) val;pure .skip):=by kernel_rfl)(f:P.underlying mty=some (.map kt et):=by kernel_rfl)(hk:P.underlying kt=some .string:=by kernel_rfl)(hf:Instr.findNow .string (.string ky) c 0=some none:=by kernel_rfl):LG P n N R X ops k Γ w:=by
 have hr:=tq w (val:=val) f hk m.obj hf;obtain ⟨p,e⟩:=tR (o':=.map (c.toArray.push { key:=.string ky,val:=val,born:=a }) (a+1)) m.obj;refine LG.store _ (gi d).1 (gi d).2 ?_ (H _ (s.pokeJ m.jk m.lo m.nb p) ⟨?_,m.jk,m.lo,m.nb⟩)
 ·rw[i];simp[hr,Result.andThen]
 ·rw[e];simp
theorem Jl {b a i:Nat}{c:List MapEntry}(mty kt et:TypeId)(ky:ByteArray)(val o:Value)(d:List MapEntry)(s:SS w0 h0 w h B [] F)(m:MapJ h0 B w h b c a)(H:∀ w',SS w0 h0 w' h B [] F->MapJ h0 B w' h b d a->LG P n N R X ops (k+1) Γ w')
  (f:cS ops Γ k=true:=by kernel_rfl)(x:execOp (ev Γ) (am ops k)=(do Instr.mapUpdate mty (.map (some b)) (.string ky) val;pure .skip):=by kernel_rfl)(u:P.underlying mty=some (.map kt et):=by kernel_rfl)(hk:P.underlying kt=some .string:=by kernel_rfl)(hf:Instr.findNow .string (.string ky) c 0=some (some (i,o)):=by kernel_rfl)
  (y:((c.toArray[i]?).map (·.key)).getD (.string ky)=.string ky:=by kernel_rfl)(j:c.toArray.modify i (fun e=>{ e with key:=.string ky,val:=val })=d.toArray:=by kernel_rfl):LG P n N R X ops k Γ w:=by
 have hr:=qA w (val:=val) u hk m.obj hf y;obtain ⟨p,l⟩:=tR (o':=.map (c.toArray.modify i fun e=>{ e with key:=.string ky,val:=val }) a) m.obj;refine LG.store _ (gi f).1 (gi f).2 ?_ (H _ (s.pokeJ m.jk m.lo m.nb p) ⟨?_,m.jk,m.lo,m.nb⟩)
 ·rw[x];simp[hr,Result.andThen]
 ·rw[l,j]
theorem Hw (t:Nat){b:Nat}{a:List MapEntry}(mty kt et:TypeId)(ky:ByteArray)(ok:Bool)(v:Value)(found:Bool)(s:SS w0 h0 w h B Rs F)(m:MapS h b a)(H:LG P n N R X ops (k+1) ((t,if ok then .tuple #[v,.bool found] else v)::Γ) w)(c:cL ops Γ k t n=true:=by kernel_rfl)
  (j:execOp (ev Γ) (am ops k)=(do pure (.value (<-Instr.lookup mty (.map (some b)) (.string ky) ok))):=by kernel_rfl)(f:P.underlying mty=some (.map kt et):=by kernel_rfl)(hk:P.underlying kt=some .string:=by kernel_rfl)
  (hf:(∃ i,Instr.findNow .string (.string ky) a 0=some (some (i,v))/\found=true)\/(Instr.findNow .string (.string ky) a 0=some none/\found=false/\∀ w,(zeroValue et).run P w=.ok v w)):LG P n N R X ops k Γ w:=by
 obtain ⟨d,e⟩:=m.w s.g;refine LG.val t _ w (bF c).1 (bF c).2 ?_ H;rw[j];have hr:=xL w ok (v:=v) (found:=found) f hk e (hf.imp id fun h=>⟨h.1,h.2.1,h.2.2 w⟩)
 simp[hr,Result.andThen]
theorem IR (t:Nat){b:Nat}{a:List MapEntry}(mty ty kt et:TypeId)(s:SS w0 h0 w h B Rs F)(m:MapS h b a)(H:LG P n N R X ops (k+1) ((t,.int .i64 (a.length:Nat))::Γ) w)(c:cL ops Γ k t n=true:=by kernel_rfl)
  (f:execOp (ev Γ) (am ops k)=(do pure (.value (<-Builtin.len_ #[mty] ty #[.map (some b)]))):=by kernel_rfl)(e:P.underlying mty=some (.map kt et):=by kernel_rfl):LG P n N R X ops k Γ w:=by
 obtain ⟨i,d⟩:=m.w s.g;refine LG.val t _ w (bF c).1 (bF c).2 ?_ H;rw[f]
 have hr:(Builtin.len_ #[mty] ty #[.map (some b)]).run P w=.ok (goInt a.toArray.size) w:=by
  simp[Builtin.len_,run_underlying e,MapKept.run_getObj_map d,Result.andThen]
 simp[hr,Result.andThen,goInt]
theorem SS.pubMap {b a:Nat}{j:List MapEntry}(s:SS w0 h0 w h B [] F)(m:MapJ h0 B w h b j a):∃ h',SS w0 h0 w h' B [] F/\MapS h' b j:=by
 have d:=aF m.jk;refine ⟨h.setIfInBounds b (.map j.toArray a),⟨s.g0,⟨⟨s.st.up.ext,⟨by simp;exact s.st.up.gr.size,fun c k=>?_⟩,⟨by simp;exact s.st.up.g.size,fun c=>?_⟩⟩,s.st.own,fun x i=>?_,s.st.lo,s.st.nd⟩,fun _ i=>(by cases i),.nil,s.mo,s.f.gw s.mo ⟨by simp,fun c _=>?_⟩⟩,a,?_⟩
 ·have:=m.lo
  rw[oi oM];exact s.st.up.gr.blk c k
 ·by_cases e:b=c
  ·subst e;left;rw[zF d];exact m.obj.symm
  ·rw[oi e];exact s.st.up.g.blk c
 ·rw[oi (Ne.symm (m.nb x i))];exact s.st.jk x i
 ·by_cases e:b=c
  ·subst e;exact .inr m.jk
  ·left;rw[oi e]
 ·rw[zF d]
end laws
theorem gT (f:Nat->Nat){a b:Nat}(h:a<=b):cw f a<=cw f b:=by
 induction h with
 | refl=>exact ey _
 | step _ ih=>exact e6 ih (Lc _ _)
def dk (op n:Int):Nat:=if op=11 then 2 else if op=8 then bD n else 1
theorem dC (op n:Int):1<=dk op n:=by
 unfold dk bD
 split
 ·omega
 ·split
  ·split<;>omega
  ·omega
theorem D2 {d:Nat}{op n:Int}{q:Rat}{s:ByteArray}{ks:List Tm}(h:ks.length=0):dd (d+1) (.mk op n q s ks)=1:=if_pos h
theorem oE {d:Nat}{op n:Int}{q:Rat}{s:ByteArray}{ks:List Tm}(h:ks.length≠0):dd (d+1) (.mk op n q s ks)=dk op n*cw (fun i=>dd d (ks.getD i aG)) ks.length:=if_neg h
theorem si {d:Nat}{op n:Int}{q:Rat}{s:ByteArray}{ks:List Tm}(h:ks.length≠0):cw (fun i=>dd d (ks.getD i aG)) ks.length<=dd (d+1) (.mk op n q s ks):=by
 rw[oE h];exact Kv _ (dC op n)
theorem mf {m s:Nat}(h:1<=m):min (m*min s 1001) 1001=min (m*s) 1001:=by
 rcases Nat.le_total s 1001 with e|e
 ·rw[Nat.min_eq_left e]
 ·rw[JO e,JO (e6 e (Kv _ h)),JO (Kv _ h)]
theorem B7 (op:Int)(w:World)(h:Hp)(g:G w h):CV 104 #[iV op] w h (iV (aK op)):=by
 have a:=sS g;refine go Tryz.func104 [(0,iV op)] rfl (ab a ae (ag (ab a ae (be (cQ (aD ?_))))));cases e:((op:Int) == (1:Int))
 .
  have o:=ah e;refine lB 5 e (lL a ae (ai (kQ ?_)));cases l:((op:Int) == (2:Int))
  .
   have B:=ah l;refine lB 6 l (lL a ae (ai (cQ (aD ?_))));cases b:((op:Int) == (7:Int))
   .
    have C:=ah b;refine lB 8 b (lL a ae (ai (aD ?_)));cases f:((op:Int) == (8:Int))
    .
     have p:=ah f;refine lB 9 f (lL a ae (ai (aD ?_)));cases d:((op:Int) == (9:Int))
     .
      have z:=ah d;refine lB 10 d (lL a ae (ai (aD ?_)));cases j:((op:Int) == (10:Int))
      .
       have u:=ah j;refine lB 11 j (lL a ae (ai (kQ ?_)));cases c:((op:Int) == (11:Int))
       .
        have y:=ah c;refine lB 12 c (lL a ae (ai (cQ (aD ?_))));cases k:((op:Int) == (3:Int))
        .
         have D:=ah k;refine lB 14 k (lL a ae (ai (aD ?_)));cases i:((op:Int) == (4:Int))
         .
          have x:=ah i;refine lB 15 i (lL a ae (ai (aD ?_)));cases za:((op:Int) == (5:Int))
          .
           have L:=ah za;refine lB 16 za (lL a ae (ai (aD ?_)));cases zb:((op:Int) == (6:Int))
           .
            have K:=ah zb;refine lB 17 zb (lL a ae (ai (aD ?_)));cases F:((op:Int) == (12:Int))
            .
             have J:=ah F;refine lB 18 F (lL a ae (ai (kQ ?_)));cases H:((op:Int) == (13:Int))
             .
              have I:=ah H;exact lB 19 H (lL a ae (ai (cK (ab a ae (af a [] (iV (-1)) (congrArg (Value.int .i64) (by have:=aA op;omega)))))))
             have I:=eq_of_beq H;exact lB 19 H (lL a ae (au (ab a ae (af a [] (iV 2) (congrArg (Value.int .i64) (by have:=aA op;omega))))))
            have J:=eq_of_beq F;exact lB 18 F (lL a ae (au (cK (bT (ab a ae (af a [] (iV 2) (congrArg (Value.int .i64) (by have:=aA op;omega))))))))
           have K:=eq_of_beq zb;exact lB 17 zb (lL a ae (au (cK (bT (ab a ae (af a [] (iV 2) (congrArg (Value.int .i64) (by have:=aA op;omega))))))))
          have L:=eq_of_beq za;exact lB 16 za (lL a ae (au (cK (bT (ab a ae (af a [] (iV 2) (congrArg (Value.int .i64) (by have:=aA op;omega))))))))
         have x:=eq_of_beq i;exact lB 15 i (lL a ae (au (cK (bT (ab a ae (af a [] (iV 2) (congrArg (Value.int .i64) (by have:=aA op;omega))))))))
        have D:=eq_of_beq k;exact lB 14 k (lL a ae (au (cK (bT (ab a ae (af a [] (iV 2) (congrArg (Value.int .i64) (by have:=aA op;omega))))))))
       have y:=eq_of_beq c;exact lB 12 c (lL a ae (au (ab a ae (af a [] (iV 1) (congrArg (Value.int .i64) (by have:=aA op;omega))))))
      have u:=eq_of_beq j;exact lB 11 j (lL a ae (au (cK (bT (ab a ae (af a [] (iV 1) (congrArg (Value.int .i64) (by have:=aA op;omega))))))))
     have z:=eq_of_beq d;exact lB 10 d (lL a ae (au (cK (bT (ab a ae (af a [] (iV 1) (congrArg (Value.int .i64) (by have:=aA op;omega))))))))
    have p:=eq_of_beq f;exact lB 9 f (lL a ae (au (cK (bT (ab a ae (af a [] (iV 1) (congrArg (Value.int .i64) (by have:=aA op;omega))))))))
   have C:=eq_of_beq b;exact lB 8 b (lL a ae (au (cK (bT (ab a ae (af a [] (iV 1) (congrArg (Value.int .i64) (by have:=aA op;omega))))))))
  have B:=eq_of_beq l;exact lB 6 l (lL a ae (au (ab a ae (af a [] (iV 0) (congrArg (Value.int .i64) (by have:=aA op;omega))))))
 have o:=eq_of_beq e;exact lB 5 e (lL a ae (au (cK (bT (ab a ae (af a [] (iV 0) (congrArg (Value.int .i64) (by have:=aA op;omega))))))))
theorem EF (n:Int)(h0 : -12<=n)(h1:n<=12)(w:World)(h:Hp)(g:G w h):CV 105 #[iV n] w h (nV (bD n)):=by
 have a:=sS g;refine go Tryz.func105 [(0,iV n)] rfl (ab a ae (ag (ab a ae ?_)));cases b:(decide ((n:Int)<=(-1073741824:Int)))
 .
  have d:=oF b;refine lB 4 b (lL a aN ?_);cases c:(decide ((1073741824:Int)<=(n:Int)))
  .
   have e:=oF c;refine lB 7 c (lL a [.v qF] (ai (cK (ab a aN (lI 11 (0-n) ?_)))));refine lV 12 (iV (max (max (n:Int) (0-n:Int)) (1:Int))) ?_ (hr:=ba (n:=(if (1:Int)>(if (0-n:Int)>(n:Int) then (0-n:Int) else (n:Int)) then (1:Int) else (if (0-n:Int)>(n:Int) then (0-n:Int) else (n:Int)))) kR (by simp only[mc]));exact lL a ae (af a [] (iV (max (max (n:Int) (0-n:Int)) (1:Int))) (congrArg (Value.int .i64) (by unfold bD;(repeat' split)<;>omega)))
  have e:=oT c;exact lB 7 c (lL a [.v qT] (au (ab a ae (af a [] (iV 1073741824) (congrArg (Value.int .i64) (by unfold bD;(repeat' split)<;>omega))))))
 have d:=oT b;refine lB 4 b (lL a ae (lG 6 ?_));exact lG 7 (lL a [.v qT] (au (ab a ae (af a [] (iV 1073741824) (congrArg (Value.int .i64) (by unfold bD;(repeat' split)<;>omega))))))
theorem wK  (sm:ByteArray->Prop)(d:Nat)(W:∀ (p:PTm) (t:Tm) (a:Int) (w:World) (h:Hp),G w h->TmH d h p t->vn sm d t->(d:Int)<=a->a<=1000->Calls Tryz.prog 62 #[dl p,iV a] w (Ret w h (fun v _=>v=.bool false)))(op n:Int)(q:Rat)(s:ByteArray)(A:Z9)(c:Nat)(e:List PTm)(ks:List Tm)(hc:e.length<=c)(J:e.length<=3)(U:ks.length<=3)(M : -1000<=op/\op<=1000)(Z : -1000<=n/\n<=1000)(hq:LQ 3000 q)(H:sm s)(D:∀ i,i<ks.length->vn sm d (ks.getD i aG))(a:Int)(hm:((d+1:Nat):Int)<=a)(S:a<=1000)(w:World)(h:Hp)(g:G w h)(Q:SlO 9 dr bA h A e)(z:Tms d h e ks):CV 62 #[dl ⟨op,n,q,s,A,e.length,c⟩,iV a] w h (.bool false):=by
 have b:=(((sS g).aS Q).add (K:=fun u=>Tms d u e ks) z);have O:=(b.f.1).len;refine go Tryz.func62 [(0,dl ⟨op,n,q,s,A,e.length,c⟩),(1,iV a)] rfl (aD (lA 2 32 (dr ⟨op,n,q,s,A,e.length,c⟩) b (fun C w2 V b=>lL b ae (ag (ab b ae ?_)))));cases j:(decide ((a:Int)<(1:Int)))
 .
  have x:=oF j;refine lB 8 j (ai (cK (cQ (ab b [.v (qP C 8),.o (qS A e.length c) 0 8 1,.v (nV e.length),.c] (be ?_)))));refine bU _ (CG.loop (fun B Γ F=>∃ (k:Nat)(u:Hp),B=e.length-k/\Γ=[(1,iV a),(10,qS A e.length c),(11,nV e.length),(12,nV k)]/\SS w h F u [⟨C,32,dr ⟨op,n,q,s,A,e.length,c⟩⟩] [] [fun u=>Tms d u e ks,fun u=>SlO 9 dr bA u A e]/\k<=e.length) _ ⟨0,V,rfl,rfl,b.to _ _,JU _⟩ ?_);rintro _ _ X ⟨k,h6,I,rfl,b,hk⟩;refine aD ?_;cases l:(decide ((k:Int)<(e.length:Int)))
  .
   have y:=oF l;refine lB 13 l (ag (dv (CG.exit ?_)))
   show CG _ _ _ _ _ _ _ _
   exact ab b ae (af b [] qF rfl)
  have y:=oT l;refine lB 13 l (ag (bT (cK (cQ (kZ (aD (lX 14 A e.length c 9 (k:Nat) k ((b.f.2.1).ok oM) ?_)))))));refine lH 15 (dl (e.getD k bA)) b ((b.f.2.1).el k oM) (lA 6 32 cV b (fun Y _ _ b=>lP 0 0 (dr (e.getD k bA)) b (fun _ b=>a7 (lL b [.o (dl (e.getD k bA)) 0 0 9,.c] (lI 18 (a-1) ?_)))));refine ak 19 b (W (e.getD k bA) (ks.getD k aG) (a-1) _ _ b.g ((b.f.1).at_ k oM) (D k oM) oM oM) (fun _ za b=>ai (cK (kQ (bM 20 ((k:Nat)+1) (k+1) ?_))));refine lL b ae (lD ?_);intro a_ L;replace b:=b.drop 1 0;refine ⟨_,_,?_,⟨k+1,za,rfl,rfl,b.to _ _,oM⟩,L.to _ kR⟩
  omega
 have x:=oT j;refine lB 8 j (au (ab b ae (lN (kX ?_))))
 exfalso;omega
theorem t6 (sm:ByteArray->Prop):∀ (d:Nat) (p:PTm) (t:Tm) (a:Int) (w:World) (h:Hp),G w h->TmH d h p t->vn sm d t->(d:Int)<=a->a<=1000->Calls Tryz.prog 62 #[dl p,iV a] w (Ret w h (fun v _=>v=.bool false))
  | 0,_,_,_,_,_,_,x,_,_,_=>x.elim
  | d+1,p,t,a,w,h,g,x,wf,hm,hm2=>by
    obtain ⟨op,n,q,s,A,c,k,ks,rfl,rfl,o,l,b⟩:=x.open;obtain ⟨e,j,i,f,u,y⟩:=wf;have z:ks.length<=3:=e;exact wK sm d (fun p t a w h=>t6 sm d p t a w h) op n q s A c k ks o (by have:=b.len;omega) e j i f u y a hm hm2 w h g l b
theorem vD  (isb:ByteArray->Bool)(sm:ByteArray->Prop)(v6:∀ s,sm s->∀ (w:World) (h:Hp),G w h->Calls Tryz.prog 61 #[.string s] w (Ret w h (fun v _=>∃ b,v=.bool b/\b=isb s)))(d:Nat)(ih:∀ (p:PTm) (t:Tm) (w:World) (h:Hp),G w h->TmH d h p t->vn sm d t ->  Calls Tryz.prog 63 #[dl p] w (Ret w h (fun v _=>∃ H,v=.bool H/\(H=true↔WfT (fun s=>isb s=true) d t))))(op n:Int)(q:Rat)(s:ByteArray)(A:Z9)(c:Nat)(j:List PTm)(ks:List Tm)(hc:j.length<=c)(hlp:j.length<=3)(hk3:ks.length<=3)(hop : -1000<=op/\op<=1000)(hn : -1000<=n/\n<=1000)(hq:LQ 3000 q)(hsm:sm s)(hW:∀ i,i<ks.length->vn sm d (ks.getD i aG))(w:World)(h:Hp)(g:G w h)(hK:SlO 9 dr bA h A j)(hKs:Tms d h j ks):CR 63 #[dl ⟨op,n,q,s,A,j.length,c⟩] w h (fun v _=>∃ H,v=.bool H/\(H=true↔WfT (fun s=>isb s=true) (d+1) (.mk op n q s ks))):=by
 have a:=(((sS g).aS hK).add (K:=fun e=>Tms d e j ks) hKs);have hln:=(a.f.1).len;have hsg:q.num.sign=0↔q.num=0:=K5;refine go Tryz.func63 [(0,dl ⟨op,n,q,s,A,j.length,c⟩)] rfl (aD (lA 1 32 (dr ⟨op,n,q,s,A,j.length,c⟩) a (fun u w2 h3 a=>lL a ae (ag (cQ (cR 7 [] mixed a ao ?_))))));refine eV 0 5 (pB u) (eO 1 6 [(0,0,1)] (iV op) a (eV 3 8 (qP u 8) (eO 4 9 [(0,8,1)] (qS A j.length c) a (eV 5 10 (nV j.length) (aj 2 7 a (fun _ _ a=>B7 op _ _ a.g) (fun w4 h5 a=>?_))))));cases B:((aK op:Int) != (j.length:Int))
 .
  have J:=aJ B;refine eB 6 11 B (ce a (fun w7 h8 a=>?_));refine tN (dv (cK (cQ (CG.join (fun Γ C=>∃ (S:Bool)(e:Hp),Γ=[(1,pB u),(2,qF),(20,.bool S)]/\SS w h C e [⟨u,32,dr ⟨op,n,q,s,A,j.length,c⟩⟩] [] [fun e=>Tms d e j ks,fun e=>SlO 9 dr bA e A j]/\(S=true->¬(op=1\/q.num=0))/\(S=false->(op=1\/q.num=0))) ?_ ?_))))
  .
   refine kQ (lL a [.v (pB u),.o (iV op) 0 0 1] ?_);cases z:((op:Int) != (1:Int))
   .
    have L:=aJ z;refine lB 14 z (lL a ae (lG 16 ?_));refine lG 17 (lG 18 (lG 19 (lL a [.v qF] (lD ?_))));intro x l;exact ⟨_,⟨false,h8,rfl,a.to _ _,(fun e=>absurd e kD),(fun _=>by omega)⟩,l.to _ kR⟩
   have L:=aU z;refine lB 14 z (lL a [.c,.v (qP u 2),.o (qv q) 0 2 5] (ak 18 a (en q (hq.mono oM) _ _ a.g) (fun _ zD a=>?_)));cases za:((q.num.sign:Int) != (0:Int))
   .
    have zs:=aJ za;refine lB 19 za (lL a [.v qF] (lD ?_));intro x l;exact ⟨_,⟨false,zD,rfl,a.to _ _,(fun e=>absurd e kD),(fun _=>by omega)⟩,l.to _ kR⟩
   have zs:=aU za;refine lB 19 za (lL a [.v qT] (lD ?_));intro x l;exact ⟨_,⟨true,zD,rfl,a.to _ _,(fun _=>by omega),(fun e=>absurd e kD)⟩,l.to _ kR⟩
  rintro _ _ ⟨S,zE,rfl,a,zH,U⟩;cases zb:(S)
  .
   try rw[zb] at a
   try rw[zb]
   refine dv (cK (cQ (CG.join (fun Γ C=>∃ (F:Bool)(e:Hp),Γ=[(1,pB u),(2,qF),(39,.bool F)]/\SS w h C e [⟨u,32,dr ⟨op,n,q,s,A,j.length,c⟩⟩] [] [fun e=>Tms d e j ks,fun e=>SlO 9 dr bA e A j]/\(F=true->¬((op=2->isb s=true)/\(op≠2->s=⟨#[]⟩)))/\(F=false->((op=2->isb s=true)/\(op≠2->s=⟨#[]⟩)))) ?_ ?_)))
   .
    refine kQ (lL a [.v (pB u),.o (iV op) 0 0 1] ?_);cases Y:((op:Int) == (2:Int))
    .
     have zt:=ah Y;refine lB 23 Y (lL a ae (lG 25 ?_));refine lG 26 (lG 27 (lG 28 (lL a [.v qF,.c,.v (pB u),.o (iV op) 0 0 1] ?_)));have zq:((op:Int) != (2:Int))=true:=Gl oM;have bm:=aU zq;refine lB 33 zq (lL a [.c,.v (qP u 7),.o (.string s) 0 7 1] ?_);cases zd:(p5 s (⟨#[]⟩))
     .
      have zu:=CX zd;refine lB 37 zd (lL a [.v qF,.v qF] (lD ?_));intro x l;exact ⟨_,⟨false,zE,rfl,a.to _ _,(fun e=>absurd e kD),(fun _=>⟨fun e=>by first|exact y.symm.trans aM|exact absurd e oM,fun e=>by first|assumption|exact absurd e oM⟩)⟩,l.to _ kR⟩
     have zu:=BI zd;refine lB 37 zd (lL a [.v qT,.v qT] (lD ?_));intro x l;exact ⟨_,⟨true,zE,rfl,a.to _ _,(fun _ e=>by first|exact Lf ((e.1 oM).symm.trans (y.symm.trans aM))|exact absurd (e.2 oM) aM),(fun e=>absurd e kD)⟩,l.to _ kR⟩
    have zt:=eq_of_beq Y;refine lB 23 Y (lL a [.c,.v (qP u 7),.o (.string s) 0 7 1] (lC 27 a (v6 s hsm _ _ a.g) ?_));rintro _ _ zG a ⟨bi,rfl,y⟩;cases bq:(bi)
    .
     refine lL a [.v qT,.v qT,.c] (lG 31 ?_);refine lG 32 (lG 33 (lG 34 (lG 35 (lG 36 (lG 37 (lG 38 (lL a [.v qT] (lD ?_))))))));intro x l;exact ⟨_,⟨true,zG,rfl,a.to _ _,(fun _ e=>by first|exact Lf ((e.1 oM).symm.trans (y.symm.trans aM))|exact absurd (e.2 oM) aM),(fun e=>absurd e kD)⟩,l.to _ kR⟩
    refine lL a [.v qF,.v qF,.c,.v (pB u),.o (iV op) 0 0 1] ?_;have zr:((op:Int) != (2:Int))=false:=xN oM;have bl:=aJ zr;refine lB 33 zr (lL a ae (lG 35 ?_));refine lG 36 (lG 37 (lL a [.v qF,.v qF] (lD ?_)));intro x l;exact ⟨_,⟨false,zG,rfl,a.to _ _,(fun e=>absurd e kD),(fun _=>⟨fun e=>by first|exact y.symm.trans aM|exact absurd e oM,fun e=>by first|assumption|exact absurd e oM⟩)⟩,l.to _ kR⟩
   rintro _ _ ⟨F,D,rfl,a,zI,Q⟩;cases Z:(F)
   .
    try rw[Z] at a
    try rw[Z]
    refine dv (cK (cQ (CG.join (fun Γ C=>∃ (O:Bool)(e:Hp),Γ=[(1,pB u),(2,qF),(57,.bool O)]/\SS w h C e [⟨u,32,dr ⟨op,n,q,s,A,j.length,c⟩⟩] [] [fun e=>Tms d e j ks,fun e=>SlO 9 dr bA e A j]/\(O=true->¬((op=8\/n=0) /\ -12<=n/\n<=12))/\(O=false->((op=8\/n=0) /\ -12<=n/\n<=12))) ?_ ?_)))
    .
     refine kQ (lL a [.v (pB u),.o (iV op) 0 0 1] ?_);cases zf:((op:Int) != (8:Int))
     .
      have zv:=aJ zf;refine lB 42 zf (lL a ae (lG 44 ?_));refine lG 45 (lG 46 (lL a [.v qF,.c,.v (qP u 1),.o (iV n) 0 1 1] ?_));cases zg:(decide ((n:Int)<(-12:Int)))
      .
       have zw:=oF zg;refine lB 51 zg (lL a [.v qF,.c,.v (qP u 1),.o (iV n) 0 1 1] ?_);cases zi:(decide ((12:Int)<(n:Int)))
       .
        have zx:=oF zi;refine lB 56 zi (lL a [.v qF] (lD ?_));intro x l;exact ⟨_,⟨false,D,rfl,a.to _ _,(fun e=>absurd e kD),(fun _=>by omega)⟩,l.to _ kR⟩
       have zx:=oT zi;refine lB 56 zi (lL a [.v qT] (lD ?_));intro x l;exact ⟨_,⟨true,D,rfl,a.to _ _,(fun _=>by omega),(fun e=>absurd e kD)⟩,l.to _ kR⟩
      have zw:=oT zg;refine lB 51 zg (lL a [.v qT,.c] (lG 54 ?_));refine lG 55 (lG 56 (lL a [.v qT] (lD ?_)));intro x l;exact ⟨_,⟨true,D,rfl,a.to _ _,(fun _=>by omega),(fun e=>absurd e kD)⟩,l.to _ kR⟩
     have zv:=aU zf;refine lB 42 zf (lL a [.c,.v (qP u 1),.o (iV n) 0 1 1] ?_);cases X:((n:Int) != (0:Int))
     .
      have zA:=aJ X;refine lB 46 X (lL a [.v qF,.c,.v (qP u 1),.o (iV n) 0 1 1] ?_);have ⟨zJ,bn⟩:=dF (p:=(n:Int)<(-12:Int)) oM;refine lB 51 zJ (lL a [.v qF,.c,.v (qP u 1),.o (iV n) 0 1 1] ?_);have ⟨zK,bf⟩:=dF (p:=(12:Int)<(n:Int)) oM;refine lB 56 zK (lL a [.v qF] (lD ?_));intro x l;exact ⟨_,⟨false,D,rfl,a.to _ _,(fun e=>absurd e kD),(fun _=>by omega)⟩,l.to _ kR⟩
     have zA:=aU X;refine lB 46 X (lL a [.v qT,.c] (lG 49 ?_));refine lG 50 (lG 51 (lL a [.v qT,.c] (lG 54 ?_)));refine lG 55 (lG 56 (lL a [.v qT] (lD ?_)));intro x l;exact ⟨_,⟨true,D,rfl,a.to _ _,(fun _=>by omega),(fun e=>absurd e kD)⟩,l.to _ kR⟩
    rintro _ _ ⟨O,zM,rfl,a,zL,I⟩;cases W:(O)
    .
     try rw[W] at a
     try rw[W]
     refine dv (cK (cQ (ab a [.v (qP u 8),.o (qS A j.length c) 0 8 1,.v (nV j.length),.c] (be ?_))));refine bU _ (CG.loop (fun μ_ Γ C=>∃ (k:Nat)(e:Hp),μ_=j.length-k/\Γ=[(59,qS A j.length c),(60,nV j.length),(61,nV k)]/\SS w h C e [⟨u,32,dr ⟨op,n,q,s,A,j.length,c⟩⟩] [] [fun e=>Tms d e j ks,fun e=>SlO 9 dr bA e A j]/\k<=j.length/\(∀ i,i<k->WfT (fun s=>isb s=true) d (ks.getD i aG))) _ ⟨0,zM,rfl,rfl,a.to _ _,JU _,(fun i hi=>absurd hi (K6 i))⟩ ?_);rintro _ _ _ ⟨k,_,bt,rfl,a,hk,V⟩;refine aD ?_;cases zl:(decide ((k:Int)<(j.length:Int)))
     .
      have zB:=oF zl;refine lB 62 zl (ag (dv (CG.exit ?_)))
      show CG _ _ _ _ _ _ _ _
      exact ab a ae (af a [] qT (GF ⟨by omega,U aM,Q aM,I aM⟩ hq (fun i hi=>V i oM)))
     have zB:=oT zl;refine lB 62 zl (ag (bT (cK (cQ (kZ (aD (lX 63 A j.length c 9 (k:Nat) k ((a.f.2.1).ok oM) ?_)))))));refine lH 64 (dl (j.getD k bA)) a ((a.f.2.1).el k oM) (lA 4 32 cV a (fun b63 _ _ a=>lP 0 0 (dr (j.getD k bA)) a (fun _ a=>a7 (lL a [.o (dl (j.getD k bA)) 0 0 9] (lC 66 a (ih (j.getD k bA) (ks.getD k aG) _ _ a.g ((a.f.1).at_ k oM) (hW k oM)) ?_)))));rintro _ _ zN a ⟨bk,rfl,M⟩;cases bv:(bk)
     .
      exact lL a [.v qT] (au (ab a ae (af a [] qF (Hc (k:=k) oM aM M))))
     refine lL a [.v qF] (ai (cK (kQ (bM 68 ((k:Nat)+1) (k+1) ?_))));refine lL a ae (lD ?_);intro x l;replace a:=a.drop 1 0;refine ⟨_,_,?_,⟨k+1,zN,rfl,rfl,a.to _ _,oM,(fun i hi=>by rcases Nat.lt_succ_iff_lt_or_eq.1 hi with e|rfl;exact V i e;exact M.1 aM)⟩,l.to _ kR⟩
     omega
    try rw[W] at a
    try rw[W]
    exact bT (ab a ae (af a [] qF (uu (fun e=>zL aM e.2.2.2))))
   try rw[Z] at a
   try rw[Z]
   exact bT (ab a ae (af a [] qF (uu (fun e=>zI aM e.2.2.1))))
  try rw[zb] at a
  try rw[zb]
  exact bT (ab a ae (af a [] qF (uu (fun e=>zH aM e.2.1))))
 have J:=aU B;exact eB 6 11 B (ce a (fun _ _ a=>tN (bT (ab a ae (af a [] qF (uu (fun e=>absurd e.1 oM)))))))
end Go.Proofs.YteipbelehcpooaaGreatDoor
