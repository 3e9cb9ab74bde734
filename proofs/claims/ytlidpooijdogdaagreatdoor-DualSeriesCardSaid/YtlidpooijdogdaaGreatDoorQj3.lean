/- Laws of this claim, part 4. -/
import Derived.Test.YtlidpooijdogdaaGreatDoorQj0
import Derived.Test.YtlidpooijdogdaaGreatDoorQj1
import Derived.Test.YtlidpooijdogdaaGreatDoorQj2
set_option maxRecDepth 100000
set_option maxHeartbeats 4000000
namespace Go.Proofs.YtlidpooijdogdaaGreatDoor
open Int renaming divExact_eq_ediv -> Na, dvd_refl -> M7, dvd_trans -> M4, emod_lt_of_pos -> Ny, emod_nonneg -> Nx, lt_or_le -> Nz, lt_trichotomy -> MX, mul_ediv_cancel_left -> MW, mul_ne_zero -> Ns, mul_neg_of_neg_of_pos -> Nl, mul_nonneg -> ND, mul_pos -> Nm, natAbs_add_le -> Nj, natAbs_dvd -> M6, natAbs_mul -> MU, natAbs_natCast -> MV, natAbs_neg -> Nk, natCast_dvd_natCast -> M5, sign_eq_neg_one_of_neg -> MY, sign_eq_one_of_pos -> MZ, tmod_eq_emod_of_nonneg -> NB
open List renaming drop_zero -> yy, ext_getElem -> NC, getD_eq_getElem?_getD -> LI, getElem?_eq_none -> ta, getElem?_set_ne -> ub, length -> Mp, length_drop -> LU, length_set -> Md, length_take -> Lp, mem_cons -> gs, mem_cons_self -> MD, mem_singleton -> sA, replicate -> zZ, set_set -> MB, take_of_length_le -> LO, take_set -> MN, toArray -> MR
open Nat renaming add_zero -> yh, divExact_eq_div -> Nb, div_le_self -> F2, eq_zero_or_pos -> Aw, gcd -> My, gcd_comm -> MA, gcd_dvd_left -> M1, gcd_dvd_right -> M3, gcd_le_left -> MQ, gcd_le_right -> Ni, gcd_pos_of_pos_right -> M0, gcd_zero_right -> MT, le_mul_of_pos_left -> MP, le_of_lt -> MS, le_trans -> eb, lt_of_le_of_lt -> Ft, lt_or_ge -> cD, mod_lt -> z6, mul_assoc -> Ln, mul_div_cancel_left -> MO, mul_zero -> Ls, pow_zero -> Mw, two_pow_pos -> Lv, zero_le -> Mv, zero_mod -> Me
open Rat renaming add -> M8, den_intCast -> Nf, intCast_natCast -> Nr, maybeNormalize -> M9, mkRat_eq_div -> Nq, mkRat_self -> Nt, mul -> Nc, neg_den -> Nh, neg_num -> Ng, normalize_eq_mkRat -> Np, num_eq_zero -> Nv, num_intCast -> Nd, sub_eq_add_neg -> Nu
open Go.RowKit
open Go.RowKit Go.Shelf
theorem AA (n:Nat)(hn:0<n)(hl:(wds n).length<=1000000000)(w:World)(h:Hp)(g:G w h):CR 178 #[nv n] w h (fun v h1=>C5 h h1 v (wds n)):=by
 have e:=sS g;have hnb:=mU n;have hwl:=mn n;have hbl:=j6 n ((nb n+7)/8);have W:=(co hn).2.2;refine go Tryz.func178 [(0,nv n)] rfl (aD (lA 1 45 (nc n) e (fun H w2 h3 e=>lL e ac (aG (lL e [.o (nv n) 0 0 2] (lC 7 e (wF n hl _ _ e.g) ?_))))));rintro _ w4 h5 e ⟨D,rfl,hb⟩;replace e:=e.aS hb;refine lL e ac (aG (lL e [.c,.v (nV ((nb n+7)/8))] (bv 10 ((((nb n+7)/8):Nat)+7) ((((nb n+7)/8):Nat)+7) ?_)));refine lV 11 (nV (((((nb n+7)/8):Nat)+7:Nat)/8)) ?_ (hr:=aI (dD (t:=3) (u:=3) (x:=.tmp 10) (y:=.const (iV 8)) (k:=.i64) (a:=(((((nb n+7)/8):Nat)+7:Nat):Int)) (b:=(8:Int)) kR kR kR oM _) (dI ((((nb n+7)/8):Nat)+7:Nat) 8 oM));refine lK 12 43 (((((nb n+7)/8):Nat)+7:Nat)/8:Nat) 1 8 (uV 0) ao 0 e (fun j w7 Y e=>?_);have M:(zZ (((((nb n+7)/8):Nat)+7:Nat)/8:Nat) 0).length=(((((nb n+7)/8):Nat)+7:Nat)/8:Nat):=by simp
 refine lL e ac (ah (aa e [.c,.v (nV ((nb n+7)/8)),.c] (aZ ?_)));refine bH _ (CG.loop (fun I Γ w_=>∃ (i:Nat)(l:List Nat)(O:Hp),I=((nb n+7)/8)-i/\Γ=[(2,sZ),(3,qS D ((nb n+7)/8) ((nb n+7)/8)),(4,qS (sB j) (((((nb n+7)/8):Nat)+7:Nat)/8:Nat) (((((nb n+7)/8):Nat)+7:Nat)/8:Nat)),(14,nV ((nb n+7)/8)),(15,nV i)]/\SS w h w_ O [⟨j,43,(l).flatMap ao⟩,⟨H,45,nc n⟩] [] [fun O=>SlO 1 nq 0 O D (fZ n ((nb n+7)/8))]/\i<=((nb n+7)/8)/\l.length=(((nb n+7)/8)+7)/8/\Wd l/\aA l=n%256^i) _ ⟨0,zZ (((((nb n+7)/8):Nat)+7:Nat)/8:Nat) 0,Y,rfl,rfl,e.to _ _,Mv _,M,Wd.rep _,(by show ai _ _=_;rw[dJ,Mw,Nat.mod_one])⟩ ?_);rintro _ _ _ ⟨i,l,_,X,rfl,e,hi,z,S,inv⟩;have Z:=kI n ((nb n+7)/8) (((nb n+7)/8)-1-i);refine aD ?_;cases F:(decide ((i:Int)<((((nb n+7)/8):Nat):Int)))
 .
  have zb:=oF F;refine lB 16 F (ah (dC (CG.exit ?_)))
  show CG _ _ _ _ _ _ _ _
  refine aa e ax (lN (kX ?_));have Q:i=((nb n+7)/8):=by omega
  have V:aA l=n:=by rw[inv,Q];exact Nat.mod_eq_of_lt (B1 n)
  have L:l=wds n:=by rw[<-V];exact (AW S (by rw[z,V];omega)).symm
  rw[L] at e
  obtain ⟨_,e,p,B,C⟩:=e.pub 0;replace e:=(e.to [⟨H,45,nc n⟩] []).aS (SlO.of_flat (sz:=1) (f:=ao) (d:=0) (b:=j) (o:=0) (l:=wds n) (fun _=>rfl) p);exact e.ret [] (qS (sB j) (((((nb n+7)/8):Nat)+7:Nat)/8:Nat) (((((nb n+7)/8):Nat)+7:Nat)/8:Nat)) (⟨j,(by rw[show (((nb n+7)/8)+7)/8=(wds n).length by omega]),B,C,e.f.1⟩)
 have zb:=oT F;refine lB 16 F (ah (cn (cK (cQ (kZ (aa e ax (lN (cR 19 [] mixed e ar ?_))))))));refine eV 0 18 (qS (sB j) (((((nb n+7)/8):Nat)+7:Nat)/8:Nat) (((((nb n+7)/8):Nat)+7:Nat)/8:Nat)) (eV 1 19 (nV i) (eV 2 20 (nV (i/8)) ?_ (hv:=fun _=>aI (dD (t:=3) (u:=3) (x:=.tmp 19) (y:=.const (iV 8)) (k:=.i64) (a:=(i:Int)) (b:=(8:Int)) kR kR kR oM _) (dI i 8 oM))));refine eX 3 21 (sB j) (((((nb n+7)/8):Nat)+7:Nat)/8:Nat) (((((nb n+7)/8):Nat)+7:Nat)/8:Nat) 1 (i/8:Nat) (i/8) rfl (eQ 4 22 0 l ao 1 0 (i/8) (mV ((l).getD (i/8) 0)) e oM (eV 5 23 (qS D ((nb n+7)/8) ((nb n+7)/8)) (eV 6 24 (qS D ((nb n+7)/8) ((nb n+7)/8)) (eV 7 25 (nV ((nb n+7)/8)) (j4 8 26 ((((nb n+7)/8):Nat)-1) ((((nb n+7)/8):Nat)-1) (eV 9 27 (nV i) (j4 10 28 (((((nb n+7)/8):Nat)-1:Nat)-(i:Nat)) (((((nb n+7)/8):Nat)-1:Nat)-i) (eX 11 29 D ((nb n+7)/8) ((nb n+7)/8) 1 (((((nb n+7)/8):Nat)-1:Nat)-i:Nat) (((((nb n+7)/8):Nat)-1:Nat)-i:Nat) ((e.f.1).ok oM) (eH 12 30 (.int .u8 ((fZ n ((nb n+7)/8)).getD (((((nb n+7)/8):Nat)-1:Nat)-i:Nat) 0:Nat)) e ((e.f.1).el (((((nb n+7)/8):Nat)-1:Nat)-i:Nat) oM) (eV 13 31 (mV ((fZ n ((nb n+7)/8)).getD (((((nb n+7)/8):Nat)-1:Nat)-i:Nat) 0)) ?_ (hv:=fun _=>rU ((((fZ n ((nb n+7)/8)).getD (((((nb n+7)/8):Nat)-1:Nat)-i:Nat) 0:Nat):Int)) kR (be oM oM))))))))))));refine eV 14 32 (nV i) (eV 15 33 (nV (i%8)) ?_ (hv:=fun _=>aI (fq (t:=3) (u:=3) (x:=.tmp 32) (y:=.const (iV 8)) (k:=.i64) (a:=(i:Int)) (b:=(8:Int)) kR kR kR oM _) (dk i 8)));refine j4 16 34 (8*(i%8:Nat)) (8*(i%8)) (eV 17 35 (mV (((fZ n ((nb n+7)/8)).getD (((((nb n+7)/8):Nat)-1:Nat)-i:Nat) 0:Nat)*2^(8*(i%8))%18446744073709551616)) ?_ (hv:=fun _=>ig (t:=43) (u:=3) (x:=.tmp 31) (y:=.tmp 34) (ky:=.i64) (a:=((fZ n ((nb n+7)/8)).getD (((((nb n+7)/8):Nat)-1:Nat)-i:Nat) 0:Nat)) (n:=(8*(i%8))) kR kR kR _));obtain ⟨K,J,U⟩:=tA oM inv (show (fZ n ((nb n+7)/8)).getD (((nb n+7)/8)-1-i) 0=n/256^i%256 by rw[iz n ((nb n+7)/8) _ oM,show ((nb n+7)/8)-1-(((nb n+7)/8)-1-i)=i by omega]);have hlg:=S.get (i/8);refine eV 18 36 (mV (l.getD (i/8) 0+(fZ n ((nb n+7)/8)).getD (((nb n+7)/8)-1-i) 0*2^(8*(i%8)))) ?_ (hv:=fun _=>aI (ir (t:=43) (u:=43) (x:=.tmp 22) (y:=.tmp 35) (a:=((l).getD (i/8) 0)) (b:=(((fZ n ((nb n+7)/8)).getD (((((nb n+7)/8):Nat)-1:Nat)-i:Nat) 0:Nat)*2^(8*(i%8))%18446744073709551616:Nat)) kR kR kR oM oM _) (by rw[K]));refine bS e (fun _ zd e=>tX 19 37 (sB j) (((((nb n+7)/8):Nat)+7:Nat)/8:Nat) (((((nb n+7)/8):Nat)+7:Nat)/8:Nat) 1 (i/8:Nat) (i/8) rfl (tW 20 0 l ao 1 (i/8) (l.getD (i/8) 0+(fZ n ((nb n+7)/8)).getD (((nb n+7)/8)-1-i) 0*2^(8*(i%8)):Nat) e oM (fun _ e=>?_)));have zc:((l).set (i/8) (l.getD (i/8) 0+(fZ n ((nb n+7)/8)).getD (((nb n+7)/8)-1-i) 0*2^(8*(i%8)):Nat)).length=(((((nb n+7)/8):Nat)+7:Nat)/8:Nat):=by rw[Md];exact z
 replace e:=e.to [⟨j,43,((l).set (i/8) (l.getD (i/8) 0+(fZ n ((nb n+7)/8)).getD (((nb n+7)/8)-1-i) 0*2^(8*(i%8)):Nat)).flatMap ao⟩,⟨H,45,nc n⟩] [];refine tN (kQ (bv 38 ((i:Nat)+1) (i+1) ?_));refine lL e ac (lD ?_);intro a_ ka;refine ⟨_,_,?_,⟨i+1,(l).set (i/8) (l.getD (i/8) 0+(fZ n ((nb n+7)/8)).getD (((nb n+7)/8)-1-i) 0*2^(8*(i%8)):Nat),zd,rfl,rfl,e.to _ _,oM,zc,(S.set _ J),U⟩,ka.to _ kR⟩
 omega
theorem C2 (A:Z9)(c:Nat)(l:List Nat)(n:Nat)(hn:l.length=n)(K:Wd l)(hl:l.length<=1000000000)(w:World)(h:Hp)(g:G w h)(Y:SlO 1 ao 0 h A l):CV 183 #[.slice A n c] w h (nv (aA l)):=by
 have e:=((sS g).aS Y);refine go Tryz.func183 [(0,qS A n c)] rfl (aD (lA 2 45 ([uV 0,eS]) e (fun D w2 h3 e=>aG (lL e [.c,.v (nV n)] (bv 7 (8*(n:Nat)) (8*n) ?_)))));refine lK 8 5 (8*n) 1 1 (.int .u8 0) nq 0 e (fun B w5 W e=>?_);have J:(zZ (8*n) 0).length=(8*n):=by simp
 refine lL e ac (ah (aa e [.c,.v (nV (8*n)),.c] (aZ ?_)));refine bH _ (CG.loop (fun H Γ X=>∃ (i:Nat)(z:List Nat)(I:Hp),H=8*n-i/\Γ=[(0,qS A n c),(2,pB D),(3,qS (sB B) (8*n) (8*n)),(10,nV (8*n)),(11,nV i)]/\SS w h X I [⟨B,5,(z).flatMap nq⟩,⟨D,45,[uV 0,eS]⟩] [] [fun I=>SlO 1 ao 0 I A l]/\i<=8*n/\z.length=8*n/\(∀ j,j<i->z.getD (8*n-1-j) 0=aA l/256^j%256)) _ ⟨0,zZ (8*n) 0,W,rfl,rfl,e.to _ _,Mv _,J,(fun j S=>absurd S oM)⟩ ?_);rintro _ _ w8 ⟨i,z,Z,M,rfl,e,hi,p,U⟩;have V:=K.get (i/8);refine aD ?_;cases F:(decide ((i:Int)<(((8*n):Nat):Int)))
 .
  have zb:=oF F;refine lB 12 F (ah (dC (CG.exit ?_)))
  show CG _ _ _ _ _ _ _ _
  refine aa e ac ?_;have him:i=8*n:=by omega
  have L:z=fZ (aA l) (8*n):=rH p (fun j S=>U j oM);rw[L] at e
  obtain ⟨_,e,C,Q,O⟩:=e.pub 0;replace e:=(e.to [⟨D,45,[uV 0,eS]⟩] []).aS (SlO.of_flat (sz:=1) (f:=nq) (d:=0) (b:=B) (o:=0) (l:=fZ (aA l) (8*n)) (fun _=>rfl) C);exact aq 33 e (wJ (aA l) (8*n) (sB B) (8*n) oM oM (by have:=Kk K;rwa [hn] at this) _ _ e.g e.f.1) (fun _ _ e=>lP 0 0 (nc (aA l)) e (fun _ e=>ae e [(0,0,2)] (nv (aA l)) rfl))
 have zb:=oT F;refine lB 12 F (ah (cn (cK (cQ (kZ (aa e ax (lN (kQ (lL e [.c,.c,.v (nV (8*n))] (bv 17 (((8*n):Nat)-1) ((8*n)-1) ?_))))))))));refine lL e ac (bv 19 (((8*n)-1:Nat)-(i:Nat)) (((8*n)-1)-i) ?_);refine lL e ax (lV 22 (nV (i/8)) ?_ (hr:=aI (dD (t:=3) (u:=3) (x:=.tmp 21) (y:=.const (iV 8)) (k:=.i64) (a:=(i:Int)) (b:=(8:Int)) kR kR kR oM _) (dI i 8 oM)));refine lX 23 A n c 1 (i/8:Nat) (i/8) ((e.f.1).ok oM) (lH 24 (mV (l.getD (i/8) 0)) e ((e.f.1).el (i/8) oM) (lL e ac (lV 26 (nV (i%8)) ?_ (hr:=aI (fq (t:=3) (u:=3) (x:=.tmp 25) (y:=.const (iV 8)) (k:=.i64) (a:=(i:Int)) (b:=(8:Int)) kR kR kR oM _) (dk i 8)))));refine bv 27 (8*(i%8:Nat)) (8*(i%8)) (lV 28 (mV ((l.getD (i/8) 0)/2^(8*(i%8)))) ?_ (hr:=gF (t:=43) (u:=3) (x:=.tmp 24) (y:=.tmp 27) (ky:=.i64) (a:=(l.getD (i/8) 0)) (n:=(8*(i%8))) kR kR kR oM _));refine lV 29 (.int .u8 (l.getD (i/8) 0/2^(8*(i%8))%256:Nat)) ?_ (hr:=aI (n:=IntKind.wrap .u8 ((l.getD (i/8) 0/2^(8*(i%8)):Nat):Int)) kR (Dq _));refine lX 30 (sB B) (8*n) (8*n) 1 (((8*n)-1)-i:Nat) (((8*n)-1)-i:Nat) rfl (lW 0 z nq 1 (((8*n)-1)-i:Nat) (l.getD (i/8) 0/2^(8*(i%8))%256:Nat) e oM (fun _ e=>?_));have zc:((z).set (((8*n)-1)-i:Nat) (l.getD (i/8) 0/2^(8*(i%8))%256:Nat)).length=(8*n):=by rw[Md];exact p
 replace e:=e.to [⟨B,5,((z).set (((8*n)-1)-i:Nat) (l.getD (i/8) 0/2^(8*(i%8))%256:Nat)).flatMap nq⟩,⟨D,45,[uV 0,eS]⟩] [];refine lN (kQ (bv 31 ((i:Nat)+1) (i+1) ?_));refine lL e ac (lD ?_);intro a_ ka;refine ⟨_,_,?_,⟨i+1,(z).set (((8*n)-1)-i:Nat) (l.getD (i/8) 0/2^(8*(i%8))%256:Nat),Z,rfl,rfl,e.to _ _,oM,zc,(gy p oM U (qI K i))⟩,ka.to _ kR⟩
 omega
def win (l:List Nat)(o n:Nat):List Nat:=(l.drop o).take n
theorem bP {l:List Nat}{o n:Nat}(h:o+n<=l.length):(win l o n).length=n:=by unfold win;rw[Lp,LU];omega
theorem tK {l:List Nat}{o n j:Nat}(h:j<n):(win l o n).getD j 0=l.getD (o+j) 0:=by unfold win;rw[jD h,bD]
theorem k6 {l:List Nat}{o n i x:Nat}(hi:i<n):win (l.set (o+i) x) o n=(win l o n).set i x:=by
 unfold win
 rw[List.drop_set,if_neg oM,MN,show o+i-o=i by omega]
theorem Aa {l:List Nat}{o n q:Nat}:(win l o n).drop q=win l (o+q) (n-q):=by
 unfold win;rw[List.drop_take,List.drop_drop]
theorem qg {l:List Nat}{o n m:Nat}(h:m<=n):(win l o n).take m=win l o m:=by
 unfold win;rw[List.take_take,Nat.min_eq_left h]
theorem uq (l:List Nat)(n:Nat)(h:l.length<=n):win l 0 n=l:=by unfold win;rw[yy,LO h]
theorem Wd.win {l:List Nat}(h:Wd l)(o n:Nat):Wd (win l o n):=Dg.take (Dg.drop h o) n
theorem uL {Z W:List Nat}{i p d c:Nat}(hi:i<Z.length)(inv:2^p*ai 18446744073709551616 (Z.take i)+c=ai 18446744073709551616 (W.take i)+18446744073709551616^i*(W.getD i 0%2^p))
  (o:2^p*d+W.getD i 0%2^p=W.getD i 0+18446744073709551616*(W.getD (i+1) 0%2^p)) :
  2^p*ai 18446744073709551616 ((Z.set i d).take (i+1))+c=ai 18446744073709551616 (W.take (i+1))+18446744073709551616^(i+1)*(W.getD (i+1) 0%2^p):=by
 have a:=aF 18446744073709551616 (Z.set i d) i;have l:(Z.set i d).take i=Z.take i:=by rw[MN,List.set_eq_of_length_le];rw[Lp];omega
 rw[l,bC hi,if_pos rfl] at a
 have h:=aF 18446744073709551616 W i;have f:=congrArg (18446744073709551616^i * ·) o
 simp only[Nat.mul_add] at f
 rw[a,h,Nat.pow_succ,Nat.mul_add];have j:2^p*(18446744073709551616^i*d)=18446744073709551616^i*(2^p*d):=by ac_rfl
 have e:18446744073709551616^i*18446744073709551616*(W.getD (i+1) 0%2^p)=18446744073709551616^i*(18446744073709551616*(W.getD (i+1) 0%2^p)):=by ac_rfl
 rw[j,e]
 omega
theorem xb {X:List Nat}(e:Wd X){k m:Nat}(t:Tz (aA X) k m)(hk:k/64<X.length):aA (X.drop (k/64))=2^(k%64)*m/\(X.drop (k/64)).getD 0 0%2^(k%64)=0:=by
 have h1:aA (X.drop (k/64))=2^(k%64)*m:=by
  rw[nJ e oM,t.1,wy k,Ln,MO _ (Nat.pow_pos kD)]
 refine ⟨h1,?_⟩
 have d:aA (X.drop (k/64))=(X.drop (k/64)).getD 0 0+18446744073709551616*ai 18446744073709551616 ((X.drop (k/64)).drop 1):=by
  have:=fX 18446744073709551616 (l:=X.drop (k/64)) (k:=0) (by rw[LU];omega)
  rwa [yy] at this
 have c:(18446744073709551616:Nat)=2^(k%64)*2^(64-k%64):=by rw[<-Nat.pow_add,show k%64+(64-k%64)=64 by omega]
 rw[h1] at d
 have a:(2^(k%64)*m)%2^(k%64)=0:=Nat.mul_mod_right _ _;rw[d] at a
 conv at a=>lhs;rw[c]
 rw[Ln,Nat.add_mul_mod_self_left] at a
 exact a
theorem Gl {Z W:List Nat}{p m:Nat}(a:W.length<=Z.length)(inv:2^p*ai 18446744073709551616 (Z.take Z.length)+0=ai 18446744073709551616 (W.take Z.length)+18446744073709551616^Z.length*(W.getD Z.length 0%2^p))(e:aA W=2^p*m):aA Z=m:=by
 rw[List.take_length,LO a,ck a,Me,Ls,yh,yh] at inv
 have c:ai 18446744073709551616 W=2^p*m:=e;rw[c] at inv
 exact Nat.eq_of_mul_eq_mul_left (Lv p) inv
theorem qr {l X:List Nat}{q i x N:Nat}(c:q+i<l.length)(h:∀ j,i<=j->j<N->l.getD (q+j) 0=X.getD j 0):∀ j,i+1<=j->j<N->(l.set (q+i) x).getD (q+j) 0=X.getD j 0:=fun j h1 a=>by
 rw[bC c,if_neg oM];exact h j oM a
theorem uT (rb:Nat)(C:List Nat)(o n c x:Nat)(hx:0<x)(hl0:C.length<=1000000000)(I:o+n<=C.length)(hnc:n<=c)(H:Wd C)(J:win C o n=wds x)(w:World)(h:Hp)(g:G w h)(ho:Own w rb 43 (C.flatMap ao))(hj:h[rb]?=some bg)(tb:Tab h):Calls Tryz.prog 180 #[.slice (some ⟨rb,o,none⟩) n c] w (fd rb w h fun v w' _=>∃ z:List Nat,∃ o' n' c':Nat,v=.slice (some ⟨rb,o',none⟩) n' c'/\z.length=C.length/\Wd z/\o'+n'<=z.length/\n'<=c'/\(∃ k m:Nat,Tz x k m/\win z o' n'=wds m)/\Own w' rb 43 (z.flatMap ao)):=by
 have B:UpM [rb] w h w h:=UpM.refl g;obtain ⟨wz,hz,e⟩:=SS.at_ g ho hj;have bd:C.length=C.length:=rfl;replace e:=(e.add (K:=fun S=>Tab S) tb);refine go Tryz.func180 [(0,qS (some ⟨rb,o,none⟩) n c)] rfl (aa e ac (aG (lL e ac (CB 7 0 e (fun _ g_ f_ M=>ru (some ⟨rb,o,none⟩) c (win C o n) n (bP I) (H.win _ _) (by rw[J,ay];exact hx) (by rw[bP I];omega) _ _ g_ (f_.1) (SlO.win (f:=ao) (d:=0) (b:=rb) (l:=C) (fun _=>rfl) M o n)) ?_))));rintro _ w1 h2 u3 e ⟨k,m,rfl,Q,hkn⟩;replace B:=B.trans (u3.m _);rw[bP I] at hkn
 have hX:=H.win o n;obtain ⟨O,L⟩:=xb hX Q (by rw[bP I];omega);rw[Aa] at O L
 obtain ⟨X,hXd⟩:∃ X,X=win C (o+k/64) (n-k/64):=⟨_,rfl⟩;rw[<-hXd] at O L
 have hXl:X.length=n-k/64:=by rw[hXd];exact bP oM
 have hXW:Wd X:=by rw[hXd];exact H.win _ _
 have hXg:∀ j,j<n-k/64->X.getD j 0=C.getD (o+k/64+j) 0:=fun j hj=>by rw[hXd];exact tK hj
 refine lL e ac (aG (lL e ax (lV 10 (nV (k/64)) ?_ (hr:=aI (dD (t:=3) (u:=3) (x:=.tmp 9) (y:=.const (iV 64)) (k:=.i64) (a:=(k:Int)) (b:=(64:Int)) kR kR kR oM _) (dI k 64 oM)))));refine KZ 11 rb o n c 1 (k/64:Nat) (k/64) (o+(k/64)) (lL e ac (aG (lL e ac (lV 13 (nV (k%64)) ?_ (hr:=aI (fq (t:=3) (u:=3) (x:=.tmp 12) (y:=.const (iV 64)) (k:=.i64) (a:=(k:Int)) (b:=(64:Int)) kR kR kR oM _) (dk k 64))))));refine lL e ac (ah (aa e [.c,.v (nV (n-(k/64))),.c] (aZ ?_)));refine bH _ (CG.loop (fun μ_ Γ w_=>∃ (i:Nat)(l:List Nat)(S:Hp),μ_=(n-k/64)-i/\Γ=[(0,qS (some ⟨rb,(o+(k/64)),none⟩) (n-(k/64)) (c-(k/64))),(2,sZ),(4,nV (k%64)),(15,nV (n-(k/64))),(16,nV i)]/\SS wz hz w_ S [⟨rb,43,(l).flatMap ao⟩] [] [fun S=>Tab S]/\i<=n-k/64/\l.length=C.length/\Wd l/\2^(k%64)*ai 18446744073709551616 ((win l (o+k/64) (n-k/64)).take i)+0=ai 18446744073709551616 (X.take i)+18446744073709551616^i*(X.getD i 0%2^(k%64))/\(∀ j,i<=j->j<n-k/64->l.getD (o+k/64+j) 0=X.getD j 0)/\UpM [rb] w h w_ S) _ ⟨0,C,h2,rfl,rfl,e.to _ _,Mv _,rfl,H,(by rw[L];simp[ai]),(fun j _ hj=>(hXg j hj).symm),B⟩ ?_);rintro _ _ w4 ⟨i,l,h5,hm6,rfl,e,hi,hll,Y,inv,F,B⟩;refine aD ?_;cases D:(decide ((i:Int)<((n-(k/64):Nat):Int)))
 .
  have bb:=oF D;refine lB 17 D (ah (dC (CG.exit ?_)))
  show CG _ _ _ _ _ _ _ _
  refine aa e ac (CB 47 0 e (fun _ g_ f_ M=>E6 (some ⟨rb,(o+k/64),none⟩) (c-(k/64)) (win l (o+k/64) (n-k/64)) (n-k/64) (bP oM) (by rw[bP oM];omega) (by rw[bP oM];omega) _ _ g_ (SlO.win (f:=ao) (d:=0) (b:=rb) (l:=l) (fun _=>rfl) M (o+k/64) (n-k/64))) ?_);rintro _ w8 h9 u10 e rfl;replace B:=B.trans (u10.m _);refine lL e ac (lN (kX ?_));have hiN:i=n-k/64:=by omega
  have hZl:(win l (o+k/64) (n-k/64)).length=n-k/64:=bP oM;have hE:=Gl (Z:=win l (o+k/64) (n-k/64)) oM (by rw[hZl,<-hiN];rw[<-hiN] at inv;exact inv) O;have hZW:Wd (win l (o+k/64) (n-k/64)):=Y.win _ _;have V:=ox hZW;rw[hE,hZl] at V
  have htl:=iq (win l (o+k/64) (n-k/64)) (n-k/64);exact e.retM B [] (qS (some ⟨rb,(o+k/64),none⟩) (tl (win l (o+k/64) (n-k/64)) (n-k/64)) (c-(k/64))) ⟨l,(o+k/64),_,_,rfl,hll,Y,by omega,by omega,⟨k,m,by rw[J,ay] at Q;exact Q,by rw[V];exact (qg htl).symm⟩,e.own 0⟩
 have bb:=oT D;refine lB 17 D (ah (cn (cK (cQ (kZ (aa e ax (aG (lL e ax (HZ 21 rb (o+(k/64)) (n-(k/64)) (c-(k/64)) 1 (i:Nat) i ((o+(k/64))+i) ?_)))))))));refine lQ 22 0 l ao 1 0 ((o+(k/64))+i) (mV ((l).getD ((o+(k/64))+i) 0)) e oM (lL e ac ?_);have W:X.getD i 0=l.getD (o+k/64+i) 0:=(F i (nR _) oM).symm;have hxi:=Y.get (o+k/64+i);have hdv:=F2 (l.getD (o+k/64+i) 0) (2^(k%64));refine lV 24 (mV (((l).getD ((o+(k/64))+i) 0:Nat)/2^(k%64))) ?_ (hr:=gF (t:=43) (u:=3) (x:=.tmp 22) (y:=.tmp 23) (ky:=.i64) (a:=((l).getD ((o+(k/64))+i) 0:Nat)) (n:=(k%64)) kR kR kR oM _);refine HZ 25 rb (o+(k/64)) (n-(k/64)) (c-(k/64)) 1 (i:Nat) i ((o+(k/64))+i) (JS 0 l ao 1 ((o+(k/64))+i) (((l).getD ((o+(k/64))+i) 0:Nat)/2^(k%64):Nat) e oM (fun _ pu e=>?_));replace B:=B.put pu (sA.2 rfl) e.g;have zb:((l).set ((o+(k/64))+i) (((l).getD ((o+(k/64))+i) 0:Nat)/2^(k%64):Nat)).length=C.length:=by rw[Md];exact hll
 replace e:=e.to [⟨rb,43,((l).set ((o+(k/64))+i) (((l).getD ((o+(k/64))+i) 0:Nat)/2^(k%64):Nat)).flatMap ao⟩] [];refine aG (lL e ac (bv 27 ((i:Nat)+1) (i+1) ?_));refine lL e [.c,.v (nV (n-(k/64)))] ?_;cases za:(decide (((i+1:Nat):Int)<((n-(k/64):Nat):Int)))
 .
  have zc:=oF za;refine lB 30 za (ag (cK (kQ (bv 45 ((i:Nat)+1) (i+1) ?_))));refine lL e ac (lD ?_);intro a_ ka;refine ⟨_,_,?_,⟨i+1,(l).set ((o+(k/64))+i) (((l).getD ((o+(k/64))+i) 0:Nat)/2^(k%64):Nat),h5,rfl,rfl,e.to _ _,oM,zb,(Y.set _ oM),(by rw[k6 oM];exact uL (by rw[bP oM];omega) inv (by rw[W,ck (l:=X) (show X.length<=i+1 by omega),Me,Ls,yh];exact Nat.div_add_mod _ _)),(qr oM F),B⟩,ka.to _ kR⟩
  omega
 have zc:=oT za;refine lB 30 za (ak (wn ⟨[],none⟩ 13 mixed ?_));replace B:=B.trans ((Up.drew (Up.refl e.g)).m _);replace e:=e.drew;refine aV 0 31 (qS (some ⟨rb,(o+(k/64)),none⟩) (n-(k/64)) (c-(k/64))) (aV 1 32 (nV i) (KS 2 33 rb (o+(k/64)) (n-(k/64)) (c-(k/64)) 1 (i:Nat) i ((o+(k/64))+i) (aQ 3 34 0 ((l).set ((o+(k/64))+i) (((l).getD ((o+(k/64))+i) 0:Nat)/2^(k%64):Nat)) ao 1 0 ((o+(k/64))+i) (mV (((l).set ((o+(k/64))+i) (((l).getD ((o+(k/64))+i) 0:Nat)/2^(k%64):Nat)).getD ((o+(k/64))+i) 0)) e oM (aV 4 35 (qS (some ⟨rb,(o+(k/64)),none⟩) (n-(k/64)) (c-(k/64))) (aV 5 36 (nV i) (aV 6 37 (nV (i+1)) ?_ (hv:=fun _=>rS (((i:Nat)+1)) kR ((gH oM oM).trans oM))))))));refine KS 7 38 rb (o+(k/64)) (n-(k/64)) (c-(k/64)) 1 (i+1:Nat) (i+1) ((o+(k/64))+(i+1)) (aQ 8 39 0 ((l).set ((o+(k/64))+i) (((l).getD ((o+(k/64))+i) 0:Nat)/2^(k%64):Nat)) ao 1 0 ((o+(k/64))+(i+1)) (mV (((l).set ((o+(k/64))+i) (((l).getD ((o+(k/64))+i) 0:Nat)/2^(k%64):Nat)).getD ((o+(k/64))+(i+1)) 0)) e oM (aV 9 40 (nV (k%64)) (aV 10 41 (nV (64-(k%64))) ?_ (hv:=fun _=>rS ((64-(k%64:Nat))) kR ((gH oM oM).trans oM)))));refine aV 11 42 (mV ((((l).set ((o+(k/64))+i) (((l).getD ((o+(k/64))+i) 0:Nat)/2^(k%64):Nat)).getD ((o+(k/64))+(i+1)) 0:Nat)*2^(64-(k%64))%18446744073709551616)) ?_ (hv:=fun _=>ig (t:=43) (u:=3) (x:=.tmp 39) (y:=.tmp 41) (ky:=.i64) (a:=(((l).set ((o+(k/64))+i) (((l).getD ((o+(k/64))+i) 0:Nat)/2^(k%64):Nat)).getD ((o+(k/64))+(i+1)) 0:Nat)) (n:=(64-(k%64))) kR kR kR _);have hXn:X.getD (i+1) 0=l.getD (o+k/64+(i+1)) 0:=(F (i+1) oM oM).symm;obtain ⟨hS1,hS2,hS3⟩:=pM (x:=l.getD (o+k/64+i) 0) (y:=l.getD (o+k/64+(i+1)) 0) (p:=k%64) oM hxi;have hgs:=bC (l:=l) (k:=o+k/64+i) (j:=o+k/64+i) (x:=l.getD (o+k/64+i) 0/2^(k%64)) oM;rw[if_pos rfl] at hgs
 have U:=bC (l:=l) (k:=o+k/64+i) (j:=o+k/64+(i+1)) (x:=l.getD (o+k/64+i) 0/2^(k%64)) oM;rw[if_neg oM] at U
 refine aV 12 43 (mV (l.getD (o+k/64+i) 0/2^(k%64)+l.getD (o+k/64+(i+1)) 0*2^(64-k%64)%18446744073709551616)) ?_ (hv:=fun _=>aI (ir (t:=43) (u:=43) (x:=.tmp 34) (y:=.tmp 42) (a:=(((l).set ((o+(k/64))+i) (((l).getD ((o+(k/64))+i) 0:Nat)/2^(k%64):Nat)).getD ((o+(k/64))+i) 0:Nat)) (b:=((((l).set ((o+(k/64))+i) (((l).getD ((o+(k/64))+i) 0:Nat)/2^(k%64):Nat)).getD ((o+(k/64))+(i+1)) 0:Nat)*2^(64-(k%64))%18446744073709551616:Nat)) kR kR kR oM oM _) (by rw[hgs,U,hS1]));refine K5 13 44 rb (o+(k/64)) (n-(k/64)) (c-(k/64)) 1 (i:Nat) i ((o+(k/64))+i) (K1 14 0 ((l).set ((o+(k/64))+i) (((l).getD ((o+(k/64))+i) 0:Nat)/2^(k%64):Nat)) ao 1 ((o+(k/64))+i) (l.getD (o+k/64+i) 0/2^(k%64)+l.getD (o+k/64+(i+1)) 0*2^(64-k%64)%18446744073709551616:Nat) e oM (fun _ pu e=>?_));replace B:=B.put pu (sA.2 rfl) e.g;have zd:(((l).set ((o+(k/64))+i) (((l).getD ((o+(k/64))+i) 0:Nat)/2^(k%64):Nat)).set ((o+(k/64))+i) (l.getD (o+k/64+i) 0/2^(k%64)+l.getD (o+k/64+(i+1)) 0*2^(64-k%64)%18446744073709551616:Nat)).length=C.length:=by rw[Md];exact zb
 replace e:=e.to [⟨rb,43,(((l).set ((o+(k/64))+i) (((l).getD ((o+(k/64))+i) 0:Nat)/2^(k%64):Nat)).set ((o+(k/64))+i) (l.getD (o+k/64+i) 0/2^(k%64)+l.getD (o+k/64+(i+1)) 0*2^(64-k%64)%18446744073709551616:Nat)).flatMap ao⟩] [];refine tN (kQ (bv 45 ((i:Nat)+1) (i+1) ?_));refine lL e ac (lD ?_);intro a_ ka;refine ⟨_,_,?_,⟨i+1,((l).set ((o+(k/64))+i) (((l).getD ((o+(k/64))+i) 0:Nat)/2^(k%64):Nat)).set ((o+(k/64))+i) (l.getD (o+k/64+i) 0/2^(k%64)+l.getD (o+k/64+(i+1)) 0*2^(64-k%64)%18446744073709551616:Nat),h5,rfl,rfl,e.to _ _,oM,zd,((Y.set _ oM).set _ hS2),(by rw[MB,k6 oM];exact uL (by rw[bP oM];omega) inv (by rw[W,hXn];exact hS3)),(by rw[MB];exact qr oM F),B⟩,ka.to _ kR⟩
 omega
theorem IU (rb:Nat)(u:List Nat)(o n c x:Nat)(hl0:u.length<=1000000000)(hon:o+n<=u.length)(hnc:n<=c)(hW0:Wd u)(F:win u o n=wds x)(D:Z9)(d y m:Nat)(hm:(wds y).length=m)(hmd:m<=d)(Z:y<=x)(w:World)(h:Hp)(g:G w h)(ho:Own w rb 43 (u.flatMap ao))(hj:h[rb]?=some bg)(hD:SlO 1 ao 0 h D (wds y)):Calls Tryz.prog 182 #[.slice (some ⟨rb,o,none⟩) n c,.slice D m d] w (fd rb w h fun v w' _=>∃ z:List Nat,∃ o' Y c':Nat,v=.slice (some ⟨rb,o',none⟩) Y c'/\z.length=u.length/\Wd z/\o'+Y<=z.length/\Y<=c'/\win z o' Y=wds (x-y)/\Own w' rb 43 (z.flatMap ao)):=by
 have e:UpM [rb] w h w h:=UpM.refl g;obtain ⟨wz,hz,a⟩:=SS.at_ g ho hj;have bn:u.length=u.length:=rfl;replace a:=a.aS hD;have hwn:n=(wds x).length:=by rw[<-F,bP hon]
 have hlm:=dg Z;refine go Tryz.func182 [(0,qS (some ⟨rb,o,none⟩) n c),(1,qS D m d)] rfl (aa a ac (aG (lL a ac (ah (aa a [.c,.v (nV n),.c] (aZ ?_))))));refine bH _ (CG.loop (fun μ_ Γ w_=>∃ (i:Nat)(l:List Nat)(J:Nat)(X:Hp),μ_=n-i/\Γ=[(0,qS (some ⟨rb,o,none⟩) n c),(1,qS D m d),(4,sZ),(9,nV n),(10,nV i),(5,mV J)]/\SS wz hz w_ X [⟨rb,43,(l).flatMap ao⟩] [] [fun X=>SlO 1 ao 0 X D (wds y)]/\i<=n/\l.length=u.length/\Wd l/\J<=1/\ai 18446744073709551616 (win l o n)+ai 18446744073709551616 ((wds y).take i)=x+18446744073709551616^i*J/\UpM [rb] w h w_ X) _ ⟨0,u,0,h,rfl,rfl,a.to _ _,Mv _,rfl,hW0,oM,(by have hx_:ai 18446744073709551616 (wds x)=x:=ay x;rw[F,hx_];simp[ai]),e⟩ ?_);rintro _ _ w1 ⟨i,l,J,h2,hm3,rfl,a,hi,H,O,hbo,inv,e⟩;have hlk:=O.get (o+i);have hyk:=(Wd.wds y).get i;have M:=tK (l:=l) (o:=o) (n:=n) (j:=i);refine aD ?_;cases C:(decide ((i:Int)<(n:Int)))
 .
  have K:=oF C;refine lB 11 C (ah (dC (CG.exit ?_)))
  show CG _ _ _ _ _ _ _ _
  refine aa a ac (CB 36 0 a (fun _ g_ f_ sg_=>E6 (some ⟨rb,o,none⟩) c (win l o n) n (bP oM) (by rw[bP oM];omega) (by rw[bP oM];omega) _ _ g_ (SlO.win (f:=ao) (d:=0) (b:=rb) (l:=l) (fun _=>rfl) sg_ o n)) ?_);rintro _ w5 h6 u7 a rfl;replace e:=e.trans (u7.m _);refine lL a ac (lN (kX ?_));have hiN:i=n:=by omega
  have V:(win l o n).length=n:=bP oM;rw[LO (show (wds y).length<=i by omega),hiN] at inv
  have S:Wd (win l o n):=O.win _ _;have hE:aA (win l o n)=x-y:=pn S (by rw[V];have hb_:ai 18446744073709551616 (wds y)=y:=ay y;rw[hb_] at inv;exact inv) oM hbo;have L:=ox S;rw[hE,V] at L
  have htl:=iq (win l o n) n;exact a.retM e [] (qS (some ⟨rb,o,none⟩) (tl (win l o n) n) c) ⟨l,o,_,_,rfl,H,O,by omega,by omega,(by rw[L];exact (qg htl).symm),a.own 0⟩
 have K:=oT C;refine lB 11 C (ah (cn (cK (cQ (kZ (aa a ax (aG (lL a ac (ah (aa a [.c,.c,.v (nV m)] ?_))))))))));cases B:(decide ((i:Int)<(m:Int)))
 .
  have U:=oF B;refine lB 16 B (ag (cK (kQ (lL a m4 (HZ 26 rb o n c 1 (i:Nat) i (o+i) ?_)))));refine lQ 27 0 l ao 1 0 (o+i) (mV ((l).getD (o+i) 0)) a oM (lL a ax ?_);obtain ⟨I,za,bl,bf,bm,W⟩:=jA ((l).getD (o+i) 0) 0 J wM wM oM;refine lV 30 (.tuple #[mV I,mV za]) ?_ (hr:=eg kR (W _));refine lL a [.c,.v (mV I),.v (mV za)] (HZ 33 rb o n c 1 (i:Nat) i (o+i) ?_);refine JS 0 l ao 1 (o+i) I a oM (fun _ pu a=>?_);replace e:=e.put pu (sA.2 rfl) a.g;have zc:((l).set (o+i) I).length=u.length:=by rw[Md];exact H
  replace a:=a.to [⟨rb,43,((l).set (o+i) I).flatMap ao⟩] [];refine lL a ac (lN (kQ (bv 34 ((i:Nat)+1) (i+1) ?_)));refine lL a ac (lD ?_);intro a_ ka;refine ⟨_,_,?_,⟨i+1,(l).set (o+i) I,za,h2,rfl,rfl,a.to _ _,oM,zc,(O.set _ oM),oM,(by rw[k6 oM];exact iE (by rw[bP oM];omega) inv (by rw[M oM];first|omega|(have hy0:=ck (l:=wds y) (k:=i) oM;omega))),e⟩,ka.to _ kR⟩
  omega
 have U:=oT B;refine lB 16 B (ak (kQ (lL a ax (lX 19 D m d 1 (i:Nat) i ((a.f.1).ok oM) ?_))));refine lH 20 (mV ((wds y).getD i 0)) a ((a.f.1).el i oM) (lL a ac (lN (kQ (lL a m4 (HZ 26 rb o n c 1 (i:Nat) i (o+i) ?_)))));refine lQ 27 0 l ao 1 0 (o+i) (mV ((l).getD (o+i) 0)) a oM (lL a ax ?_);obtain ⟨p,zb,bd,bk,bb,Q⟩:=jA ((l).getD (o+i) 0) ((wds y).getD i 0) J wM wM oM;refine lV 30 (.tuple #[mV p,mV zb]) ?_ (hr:=eg kR (Q _));refine lL a [.c,.v (mV p),.v (mV zb)] (HZ 33 rb o n c 1 (i:Nat) i (o+i) ?_);refine JS 0 l ao 1 (o+i) p a oM (fun _ pu a=>?_);replace e:=e.put pu (sA.2 rfl) a.g;have zd:((l).set (o+i) p).length=u.length:=by rw[Md];exact H
 replace a:=a.to [⟨rb,43,((l).set (o+i) p).flatMap ao⟩] [];refine lL a ac (lN (kQ (bv 34 ((i:Nat)+1) (i+1) ?_)));refine lL a ac (lD ?_);intro a_ ka;refine ⟨_,_,?_,⟨i+1,(l).set (o+i) p,zb,h2,rfl,rfl,a.to _ _,oM,zd,(O.set _ oM),oM,(by rw[k6 oM];exact iE (by rw[bP oM];omega) inv (by rw[M oM];first|omega|(have hy0:=ck (l:=wds y) (k:=i) oM;omega))),e⟩,ka.to _ kR⟩
 omega
theorem Tz.le {n k m:Nat}(t:Tz n k m):m<=n:=by rw[t.1];exact MP m (Lv k)
theorem ie (a b:Nat):(bV a b=0/\a=b)\/(bV a b = -1/\a<b)\/(bV a b=1/\b<a):=by
 rcases Nat.lt_trichotomy a b with h|h|h
 ·exact .inr (.inl ⟨d9 h,h⟩)
 ·exact .inl ⟨i7 h,h⟩
 ·exact .inr (.inr ⟨fR h,h⟩)
theorem vf (A:Z9)(c:Nat)(D:Z9)(d:Nat)(x y n a:Nat)(i e:List Nat)(u:i=wds x)(p:e=wds y)(hn:i.length=n)(f:e.length=a)(l:n<=1000000000)(z:a<=1000000000)(w:World)(h:Hp)(g:G w h)(o:SlO 1 ao 0 h A i)(j:SlO 1 ao 0 h D e):CV 181 #[.slice A n c,.slice D a d] w h (iV (bV x y)):=by
 subst u p;exact wx A c D d x y n a hn f oM oM w h g o j
theorem Js (A:Z9)(c:Nat)(l:List Nat)(n x:Nat)(a:l=wds x)(hn:l.length=n)(e:n<=1000000000)(w:World)(h:Hp)(g:G w h)(d:SlO 1 ao 0 h A l):CV 183 #[.slice A n c] w h (nv x):=by
 subst a;have:=C2 A c (wds x) n hn (Wd.wds x) oM w h g d
 rwa [ay] at this
theorem AD (rb:Nat)(a:List Nat)(o n c x:Nat)(u:a.length<=1000000000)(C:o+n<=a.length)(i:n<=c)(p:Wd a)(e:win a o n=wds x)(D:Z9)(d y m:Nat)(l:List Nat)(I:l=wds y)(J:l.length=m)(B:m<=d)(j:y<=x)(w:World)(h:Hp)(g:G w h)(F:Own w rb 43 (a.flatMap ao))(K:h[rb]?=some bg)(H:SlO 1 ao 0 h D l):Calls Tryz.prog 182 #[.slice (some ⟨rb,o,none⟩) n c,.slice D m d] w (fd rb w h fun v w' _=>∃ z:List Nat,∃ o' f c':Nat,v=.slice (some ⟨rb,o',none⟩) f c'/\z.length=a.length/\Wd z/\o'+f<=z.length/\f<=c'/\win z o' f=wds (x-y)/\Own w' rb 43 (z.flatMap ao)):=by
 subst I;exact IU rb a o n c x u C i p e D d y m J B j w h g F K H
theorem Da (x y:Nat)(hx:0<x)(hy:0<y)(hlx:(wds x).length<=1000000000)(hly:(wds y).length<=1000000000)(w:World)(h:Hp)(g:G w h)(tb:Tab h):CV 150 #[nv x,nv y] w h (nv (My x y)):=by
 have e:=((sS g).add (K:=fun h_=>Tab h_) tb);have hpx:=hx;have hpy:=hy;refine go Tryz.func150 [(0,nv x),(1,nv y)] rfl (aD (lA 2 45 (nc x) e (fun b1 w2 h3 e=>lA 3 45 (nc y) e (fun b4 w5 h6 e=>lA 4 45 ([uV 0,eS]) e (fun X w8 h9 e=>ah ?_)))));obtain ⟨K_,hK_⟩:∃ K_,K_=w8.heap.size:=⟨_,rfl⟩;have f3:X<K_:=by rw[hK_];exact fi e 0
 have cx:b4<K_:=by rw[hK_];exact fi e 1
 have cm:b1<K_:=by rw[hK_];exact fi e 2
 refine wn ⟨[],some (K_,[])⟩ 0 mixed ?_;have hm:=e.g.size;replace e:=e.drew;have W:=Nat.le_of_eq hK_;refine zO 0 10 [(2,0,2)] (nv x) rfl W e (fun p hp=>by obtain rfl:=sA.1 hp;exact cm) (zO 2 12 [(1,0,2)] (nv y) rfl W e (fun p hp=>by obtain rfl:=sA.1 hp;exact cx) (rz 1 11 (AA x oM oM _ _ e.g) rfl W ?_));rintro _ _ _ u12 W ⟨I,rfl,c6,d2,hc⟩;obtain ⟨_,e,-,-⟩:=e.take u12 c6 d2;replace e:=e.to [⟨I,43,(wds x).flatMap ao⟩,⟨X,45,[uV 0,eS]⟩,⟨b4,45,nc y⟩,⟨b1,45,nc x⟩] [];refine rz 3 13 (AA y oM oM _ _ e.g) rfl W ?_;rintro _ _ _ u16 W ⟨O,rfl,d3,dp,hj⟩;obtain ⟨_,e,-,-⟩:=e.take u16 d3 dp;replace e:=e.to [⟨O,43,(wds y).flatMap ao⟩,⟨I,43,(wds x).flatMap ao⟩,⟨X,45,[uV 0,eS]⟩,⟨b4,45,nc y⟩,⟨b1,45,nc x⟩] [];refine zV 4 5 (qS (sB I) ((wds x).length) ((wds x).length)) (zV 5 6 (qS (sB O) ((wds y).length) ((wds y).length)) (rW (lL e ac (Ke 15 1 e (fun _ g_ f_ V=>ru (sB I) (wds x).length (wds x) (wds x).length rfl (Wd.wds x) (by rw[ay];omega) oM _ _ g_ (f_.1) (SlO.of_flat (sz:=1) (f:=ao) (d:=0) (b:=I) (o:=0) (l:=wds x) (fun _=>rfl) V)) ?_))));rintro _ _ _ e ⟨kx,mx,rfl,htx,hkx⟩;rw[ay] at htx
 refine lL e ac (Ke 17 0 e (fun _ g_ f_ V=>ru (sB O) (wds y).length (wds y) (wds y).length rfl (Wd.wds y) (by rw[ay];omega) oM _ _ g_ (f_.1) (SlO.of_flat (sz:=1) (f:=ao) (d:=0) (b:=O) (o:=0) (l:=wds y) (fun _=>rfl) V)) ?_);rintro _ _ _ e ⟨ky,my,rfl,hty,hky⟩;rw[ay] at hty
 refine lV 18 (nV (min kx ky)) ?_ (hr:=aI (n:=if (ky:Int)<(kx:Int) then (ky:Int) else (kx:Int)) kR (by split<;>omega));refine lL e ac (aG (lL e ac (gk 20 (uT I (wds x) 0 ((wds x).length) ((wds x).length) x hpx oM oM (nR _) (Wd.wds x) (uq _ _ (nR _)) _ _ e.g (e.own 1) (e.jk 1) e.f.1) ?_)));rintro _ _ _ u27 ⟨z24,o24,n24,zl,rfl,fn,cw,b9,b5,⟨hl,c7,B,ch⟩,ds⟩;replace e:=(e.stepM 1 u27 ds).to [⟨O,43,(wds y).flatMap ao⟩,⟨I,43,(z24).flatMap ao⟩,⟨X,45,[uV 0,eS]⟩,⟨b4,45,nc y⟩,⟨b1,45,nc x⟩] [];have cf:=B.odd_pos;have fm:=B.le;refine lL e ac (gk 22 (uT O (wds y) 0 ((wds y).length) ((wds y).length) y hpy oM oM (nR _) (Wd.wds y) (uq _ _ (nR _)) _ _ e.g (e.own 0) (e.jk 0) e.f.1) ?_);rintro _ _ zm u31 ⟨z28,o28,n28,zn,rfl,d7,cy,c4,bm,⟨f8,c8,u,bt⟩,dc⟩;replace e:=(e.stepM 0 u31 dc).to [⟨O,43,(z28).flatMap ao⟩,⟨I,43,(z24).flatMap ao⟩,⟨X,45,[uV 0,eS]⟩,⟨b4,45,nc y⟩,⟨b1,45,nc x⟩] [];have br:=u.odd_pos;have d5:=u.le;refine lL e ax (ah (kZ ?_));refine bH _ (CG.loop (fun μ_ Γ w_=>∃ (J:Nat)(L:List Nat)(U:Nat)(Q:Nat)(c1:Nat)(S:Nat)(l2:List Nat)(Z:Nat)(Y:Nat)(c2:Nat)(D:Nat)(y1:Nat)(h_:Hp),μ_=D+y1/\Γ=[(4,pB X),(7,nV (min kx ky)),(5,qS (some ⟨J,U,none⟩) Q c1),(6,qS (some ⟨S,Z,none⟩) Y c2)]/\SS w h w_ h_ [⟨S,43,(l2).flatMap ao⟩,⟨J,43,(L).flatMap ao⟩,⟨X,45,[uV 0,eS]⟩,⟨b4,45,nc y⟩,⟨b1,45,nc x⟩] [] [fun h_=>Tab h_]/\L.length<=1000000000/\Wd L/\U+Q<=L.length/\Q<=c1/\win L U Q=wds D/\0<D/\l2.length<=1000000000/\Wd l2/\Z+Y<=l2.length/\Y<=c2/\win l2 Z Y=wds y1/\0<y1/\D%2=1/\y1%2=1/\My D y1*2^min kx ky=My x y) _ ⟨I,z24,o24,n24,zl,O,z28,o28,n28,zn,c7,c8,zm,rfl,rfl,e.to _ _,oM,cw,b9,b5,ch,cf,oM,cy,c4,bm,bt,br,B.2,u.2,(by rw[(htx.uniq B).1,(hty.uniq u).1];exact (xd B u).symm)⟩ ?_);rintro _ _ _ ⟨J,L,U,Q,c1,S,l2,Z,Y,c2,D,y1,_,hd,rfl,e,hl1,hW1,C,bd,i,hx1,hl2,hW2,M,bb,j,hy1,hxo,hyo,hG⟩;have f7:=ie D y1;have dv:=congrArg Mp i;rw[bP C] at dv
 have d0:=congrArg Mp j;rw[bP M] at d0
 refine kZ (aa e ax (KF 25 1 0 e (fun _ g_ f_ V sh_=>vf (some ⟨J,U,none⟩) c1 (some ⟨S,Z,none⟩) c2 D y1 Q Y (win L U Q) (win l2 Z Y) i j (bP C) (bP M) oM oM _ _ g_ (SlO.win (f:=ao) (d:=0) (b:=J) (l:=L) (fun _=>rfl) V U Q) (SlO.win (f:=ao) (d:=0) (b:=S) (l:=l2) (fun _=>rfl) sh_ Z Y)) ?_));rintro _ _ _ e rfl;refine lL e ac (ah (aa e ac ?_));cases za:((bV D y1:Int) == (0:Int))
 .
  have zd:=aj za;refine lB 27 za (ag (cK (cQ (aa e ac ?_))));cases zb:(decide ((bV D y1:Int)<(0:Int)))
  .
   have ze:=oF zb;refine lB 29 zb (ag (cK (kQ (lL e ax (IF 34 1 0 e (fun _ g_ f_ hj_ sh_=>AD J L U Q c1 D oM C bd hW1 i (some ⟨S,Z,none⟩) c2 y1 Y (win l2 Z Y) j (bP M) bb oM _ _ g_ (e.own 1) hj_ (SlO.win (f:=ao) (d:=0) (b:=S) (l:=l2) (fun _=>rfl) sh_ Z Y)) ?_)))));rintro _ _ _ u44 ⟨s41,dw,dn,df,rfl,fp,b2,bn,cq,cj,zi⟩;replace e:=(e.stepM 1 u44 zi).to [⟨S,43,(l2).flatMap ao⟩,⟨J,43,(s41).flatMap ao⟩,⟨X,45,[uV 0,eS]⟩,⟨b4,45,nc y⟩,⟨b1,45,nc x⟩] [];refine gk 35 (uT J s41 dw dn df (D-y1) oM oM bn cq b2 cj _ _ e.g (e.own 1) (e.jk 1) e.f.1) ?_;rintro _ _ zo u48 ⟨z45,o45,n45,zp,rfl,d6,c5,bl,b6,⟨hh,c9,H,bk⟩,d4⟩;replace e:=(e.stepM 1 u48 d4).to [⟨S,43,(l2).flatMap ao⟩,⟨J,43,(z45).flatMap ao⟩,⟨X,45,[uV 0,eS]⟩,⟨b4,45,nc y⟩,⟨b1,45,nc x⟩] [];have cp:=H.odd_pos;have f2:=H.le;refine lL e ac (lD ?_);intro a_ ka;refine ⟨_,_,?_,⟨J,z45,o45,n45,zp,S,l2,Z,Y,c2,c9,y1,zo,rfl,rfl,e.to _ _,oM,c5,bl,b6,bk,cp,oM,hW2,M,bb,j,hy1,H.2,hyo,(by rw[ug oM hyo H];exact hG)⟩,ka.to _ kR⟩
   omega
  have ze:=oT zb;refine lB 29 zb (ak (kQ (lL e m4 (lN (kQ (lL e ax (IF 34 0 1 e (fun _ g_ f_ hj_ sh_=>AD S l2 Z Y c2 y1 oM M bb hW2 j (some ⟨J,U,none⟩) c1 D Q (win L U Q) i (bP C) bd oM _ _ g_ (e.own 0) hj_ (SlO.win (f:=ao) (d:=0) (b:=J) (l:=L) (fun _=>rfl) sh_ U Q)) ?_)))))));rintro _ _ _ u67 ⟨s64,dm,dz,dy,rfl,d8,cr,cz,b3,cd,zj⟩;replace e:=(e.stepM 0 u67 zj).to [⟨S,43,(s64).flatMap ao⟩,⟨J,43,(L).flatMap ao⟩,⟨X,45,[uV 0,eS]⟩,⟨b4,45,nc y⟩,⟨b1,45,nc x⟩] [];refine gk 35 (uT S s64 dm dz dy (y1-D) oM oM cz b3 cr cd _ _ e.g (e.own 0) (e.jk 0) e.f.1) ?_;rintro _ _ zq u71 ⟨z68,o68,n68,zr,rfl,f1,bq,bz,b0,⟨hb,d1,F,c3⟩,dx⟩;replace e:=(e.stepM 0 u71 dx).to [⟨S,43,(z68).flatMap ao⟩,⟨J,43,(L).flatMap ao⟩,⟨X,45,[uV 0,eS]⟩,⟨b4,45,nc y⟩,⟨b1,45,nc x⟩] [];have bf:=F.odd_pos;have f6:=F.le;refine lL e ac (lD ?_);replace e:=e.perm (List.Perm.swap _ _ _);intro a_ ka;refine ⟨_,_,?_,⟨S,z68,o68,n68,zr,J,L,U,Q,c1,d1,D,zq,rfl,rfl,e.to _ _,oM,bq,bz,b0,c3,bf,oM,hW1,C,bd,i,hx1,F.2,hxo,(by rw[ug oM hxo F,MA];exact hG)⟩,ka.to _ kR⟩
  omega
 have zd:=eq_of_beq za;refine lB 27 za (ak (CG.exit ?_))
 show CG _ _ _ _ _ _ _ _
 refine aa e ac (Ke 37 1 e (fun _ g_ f_ V=>Js (some ⟨J,U,none⟩) c1 (win L U Q) Q D i (bP C) oM _ _ g_ (SlO.win (f:=ao) (d:=0) (b:=J) (l:=L) (fun _=>rfl) V U Q)) ?_);rintro _ _ _ e rfl;refine lA 9 45 ([uV 0,eS]) e (fun zg _ zs e=>lP 0 0 (nc D) e (fun _ e=>ah (kZ ?_)));refine bH _ (CG.loop (fun μ_ Γ w_=>∃ (z:Int)(a:Nat)(h_:Hp),μ_=z.toNat/\Γ=[(4,pB X),(9,pB zg),(7,iV z)]/\SS w h w_ h_ [⟨zg,45,nc a⟩,⟨S,43,(l2).flatMap ao⟩,⟨J,43,(L).flatMap ao⟩,⟨X,45,[uV 0,eS]⟩,⟨b4,45,nc y⟩,⟨b1,45,nc x⟩] [] [fun h_=>Tab h_]/\z<=64000000000/\a*2^z.toNat=My x y) _ ⟨((min kx ky:Nat):Int),D,zs,rfl,rfl,e.to _ _,oM,(by rw[show D=y1 by omega,Nat.gcd_self] at hG;rw[show D=y1 by omega];rw[show (((min kx ky:Nat):Int)).toNat=min kx ky by omega];exact hG)⟩ ?_);rintro _ _ _ ⟨z,a,_,f9,rfl,e,hz,ha⟩;refine cQ (aa e ac ?_);cases zc:(decide ((0:Int)<(z:Int)))
 .
  have zf:=oF zc;refine lB 39 zc (ag (CG.exit ?_))
  show CG _ _ _ _ _ _ _ _
  exact aa e [.o (nv a) 0 0 2] (lP 3 0 (nc a) e (fun _ e=>ae e [(3,0,2)] (nv a) (by rw[show z.toNat=0 by omega,Mw,Nat.mul_one] at ha;rw[ha])))
 have zf:=oT zc;refine lB 39 zc (ak (cK (cQ (kZ (kQ (lL e [.o (nv a) 0 0 2,.c] (lV 44 (nV (min z.toNat 65536)) ?_ (hr:=aI (n:=if (65536:Int)<z then (65536:Int) else z) kR (by split<;>omega)))))))));refine aq 45 e (Gm a (min z.toNat 65536) (by have:=dg (show a<=x by exact eb (Nat.le_mul_of_pos_right a (Lv z.toNat)) (by rw[ha];exact MQ y hx));omega) oM _ _ e.g) (fun _ zk e=>lP 0 0 (nc (a*2^min z.toNat 65536)) e (fun _ e=>lN (kQ (lL e ac (lI 41 (z-65536) ?_)))));refine lL e ac (lD ?_);intro a_ ka;refine ⟨_,_,?_,⟨z-65536,a*2^min z.toNat 65536,zk,rfl,rfl,e.to _ _,oM,(by rw[Ln,<-Nat.pow_add,show min z.toNat 65536+(z-65536).toNat=z.toNat by omega];exact ha)⟩,ka.to _ kR⟩
 omega
theorem mY (n:Nat):(n=0/\nb n=0)\/(0<n/\0<nb n):=by
 rcases Aw n with h|h
 ·subst h;exact .inl ⟨rfl,rfl⟩
 ·exact .inr ⟨h,(co h).2.2⟩
theorem jK (x y:Nat):My y (x%y)=My x y:=by rw[MA y,<-Nat.gcd_rec,MA]
theorem FT (n:Nat)(w:World)(h:Hp)(g:G w h):CR 149 #[nv n] w h (fun v _=>∃ s:Nat,∃ ok:Bool,v=.tuple #[mV s,.bool ok]/\(ok=true->s=n/\n<18446744073709551616)):=by
 rcases cD n 18446744073709551616 with hn|hn
 ·refine (th n hn w h g).mono ?_
  rintro _ w' ⟨_,a,rfl,u,rfl⟩;exact ⟨_,a,rfl,u,n,true,rfl,fun _=>⟨rfl,hn⟩⟩
 ·refine (CK n hn w h g).mono ?_
  rintro _ w' ⟨_,a,rfl,u,rfl⟩;exact ⟨_,a,rfl,u,0,false,rfl,fun e=>by cases e⟩
theorem Kv (a b:Int)(hla:(wds (ab a)).length<=1000000000)(hlb:(wds (ab b)).length<=1000000000)(w:World)(h:Hp)(g:G w h)(tb:Tab h):CV 117 #[iv a,iv b] w h (nv (My (ab a) (ab b))):=by
 have d:=((sS g).add (K:=fun B=>Tab B) tb);refine go Tryz.func117 [(0,iv a),(1,iv b)] rfl (aD (lA 2 47 (ic a) d (fun Y w2 h3 d=>lA 3 47 (ic b) d (fun b4 w5 h6 d=>lA 4 45 ([uV 0,eS]) d (fun U w8 h9 d=>ah ?_)))));have z:=d;refine FF 6 [⟨4,5,.cells (MR [uV 0,eS]) 45 (0,0)⟩,⟨5,6,.cells (MR [uV 0,eS]) 45 (0,0)⟩] [] mixed d (bO (fD kR (fun _ _=>by kernel_rfl)) (bO (fD kR (fun _ _=>by kernel_rfl)) ar)) (eV 0 14 (qP Y 1) (eO 1 15 [(2,1,2)] (nv (ab a)) d (eV 2 16 (qP b4 1) (Bw 3 17 [(1,1,2)] (nv (ab b)) z d (F7 z d 45 [uV 0,eS] 45 [uV 0,eS] (fun _ _ I O J F d=>tP 6 0 0 (nc (ab a)) d (fun _ d=>?_) (hz:=i5 J)))))));refine tP 7 1 0 (nc (ab b)) d (fun _ d=>?_) (hz:=i5 F);refine tN (CG.join (fun Γ Z=>∃ (x:Nat)(y:Nat)(B:Hp),Γ=[(4,pB U),(6,pB O),(5,pB I)]/\SS w h Z B [⟨I,45,nc x⟩,⟨O,45,nc y⟩,⟨U,45,[uV 0,eS]⟩,⟨b4,47,ic b⟩,⟨Y,47,ic a⟩] [] [fun B=>Tab B]/\(wds x).length<=1000000000/\(wds y).length<=1000000000/\My x y=My (ab a) (ab b)) ?_ ?_)
 .
  refine aa d [.o (nv (ab a)) 0 0 2,.o (nv (ab b)) 1 0 2] (aq 20 d (ml (ab a) (ab b) aM aM _ _ d.g) (fun _ zm d=>?_));have hcm:=ie (ab a) (ab b);cases Q:(decide ((bV (ab a) (ab b):Int)<(0:Int)))
  .
   have zi:=oF Q;refine lB 21 Q (ag (CG.skip ?_));intro a_ L;exact ⟨_,⟨(ab a),(ab b),zm,rfl,d.to _ _,aM,aM,(by first|rfl|exact MA _ _)⟩,L.to _ kR⟩
  have zi:=oT Q;refine lB 21 Q (ak (kQ (lL d [.o (nv (ab b)) 1 0 2,.o (nv (ab a)) 0 0 2] (lP 0 0 (nc (ab b)) d (fun _ d=>lP 1 0 (nc (ab a)) d (fun _ d=>lD ?_))))));intro a_ L;exact ⟨_,⟨(ab b),(ab a),zm,rfl,d.to _ _,aM,aM,(by first|rfl|exact MA _ _)⟩,L.to _ kR⟩
 rintro _ _ ⟨x,y,_,rfl,d,hlx,hly,H⟩;refine cQ (aa d [.o (nv y) 1 0 2] (aq 25 d (f0 y (by first|assumption|exact av (MS (z6 _ oM)) aM) _ _ d.g) (fun _ _ d=>?_)));have bk:=mY y;cases V:(((nb y:Nat):Int) == (0:Int))
 .
  have zj:=aj V;refine lB 26 V (ag (cK (aa d [.o (nv x) 0 0 2,.o (nv y) 1 0 2] (aq 31 d (Jr x y oM aM aM _ _ d.g) (fun _ _ d=>?_)))));have hmd:=z6 x (show 0<y by omega);refine lL d [.c,.v (nv (x/y)),.v (nv (x%y)),.v qT] (lA 7 45 ([uV 0,eS]) d (fun zn _ _ d=>lA 8 45 ([uV 0,eS]) d (fun zo _ _ d=>lP 1 0 (nc (x/y)) d (fun _ d=>lP 0 0 (nc (x%y)) d (fun _ d=>lL d ac (ah ?_))))));have z:=d;refine FF 2 [] [I,O] mixed d ar (eO 0 35 [(3,0,2)] (nv y) d (Bw 1 36 [(0,0,2)] (nv (x%y)) z d ?_ (hM:=fun p hp=>by obtain rfl:=sA.1 hp;exact fun M=>by rcases gs.1 M with e|M;exact gB d.st (i:=0) (j:=2) kR kR kR e;rcases gs.1 M with e|M;exact gB d.st (i:=0) (j:=3) kR kR kR e;cases M)));refine bS d (fun _ _ d=>tP 2 2 0 (nc y) d (fun _ d=>?_) (hz:=gC (MD)));refine tP 3 3 0 (nc (x%y)) d (fun _ d=>?_) (hz:=gC (List.mem_cons_of_mem _<|MD));refine tN (cQ (aD ?_));have D:My y (x%y)=My (ab a) (ab b):=by rw[<-H];exact jK _ _
  refine lL d [.o (nv (x%y)) 3 0 2] (aq 38 d (f0 (x%y) (by first|assumption|exact av (MS (z6 _ oM)) aM) _ _ d.g) (fun _ _ d=>?_));have bd:=mY (x%y);cases S:(((nb (x%y):Nat):Int) == (0:Int))
  .
   have zk:=aj S;refine lB 39 S (ag (cK (cQ (aa d [.o (nv y) 2 0 2] (lC 43 d (FT y _ _ d.g) ?_)))));rintro _ _ _ d ⟨sp,ok,rfl,l⟩;refine lL d [.c,.v (mV sp),.v (.bool ok),.c,.c] (aG (lL d ac (lN ?_)));cases X:(ok)
   .
    try rw[X] at d
    try rw[X]
    exact dC (cK (aa d [.o (nv y) 2 0 2,.o (nv (x%y)) 3 0 2] (aq 62 d (Da y (x%y) oM oM (by first|assumption|exact av (MS (z6 _ oM)) aM) (by first|assumption|exact av (MS (z6 _ oM)) aM) _ _ d.g d.f.1) (fun _ _ d=>lP 4 0 (nc (My y (x%y))) d (fun _ d=>ae d [(4,0,2)] (nv (My y (x%y))) (congrArg nv D))))))
   try rw[X] at d
   try rw[X]
   refine cn (aa d [.o (nv (x%y)) 3 0 2] (aq 49 d (th (x%y) (by have C:=l aM;omega) _ _ d.g) (fun _ zp d=>lL d [.c,.v (mV (x%y)),.v qT,.c,.c] (ah (kZ ?_)))));refine bH _ (CG.loop (fun μ_ Γ Z=>∃ (p:Nat)(q:Nat)(B:Hp),μ_=q/\Γ=[(4,pB U),(6,pB O),(5,pB I),(10,mV p),(12,mV q)]/\SS w h Z B [⟨zo,45,nc (x%y)⟩,⟨zn,45,nc (x/y)⟩,⟨I,45,nc y⟩,⟨O,45,nc (x%y)⟩,⟨U,45,[uV 0,eS]⟩,⟨b4,47,ic b⟩,⟨Y,47,ic a⟩] [] [fun B=>Tab B]/\p<18446744073709551616/\q<18446744073709551616/\My p q=My (ab a) (ab b)) _ ⟨sp,(x%y),zp,rfl,rfl,d.to _ _,(by have C:=l aM;omega),(by have C:=l aM;omega),(by rw[(l aM).1];exact D)⟩ ?_);rintro _ _ _ ⟨p,q,_,bb,rfl,d,hp,hq,hG⟩;refine cQ (aa d ac ?_);cases W:(decide ((0:Int)<(q:Int)))
   .
    have zl:=oF W;refine lB 53 W (ag (CG.exit ?_))
    show CG _ _ _ _ _ _ _ _
    exact aa d ac (aq 59 d (JV p hp _ _ d.g) (fun _ _ d=>lP 4 0 (nc p) d (fun _ d=>ae d [(4,0,2)] (nv p) (congrArg nv (by rw[<-hG,show q=0 by omega,MT])))))
   have zl:=oT W;refine lB 53 W (ak (cK (kZ (cR 4 [] mixed d ar ?_))));refine eV 0 54 (mV q) (eV 1 55 (mV p) (eV 2 56 (mV q) (eV 3 57 (mV (p%q)) ?_ (hv:=fun _=>aI (fq (t:=43) (u:=43) (x:=.tmp 55) (y:=.tmp 56) (k:=.u64) (a:=(p:Int)) (b:=(q:Int)) kR kR kR oM _) (dk p q)))));refine bS d (fun _ zq d=>tV 4 10 (mV q) (tV 5 12 (mV (p%q)) (tD ?_)));intro a_ L;refine ⟨_,_,?_,⟨q,p%q,zq,rfl,rfl,d.to _ _,hq,(by have:=z6 p (show 0<q by omega);omega),(by rw[jK];exact hG)⟩,L.to _ kR⟩;have bf:=z6 p (show 0<q by omega)
   omega
  have zk:=eq_of_beq S;exact lB 39 S (ak (aa d [.o (nv y) 2 0 2] (lP 4 0 (nc y) d (fun _ d=>ae d [(4,0,2)] (nv y) (congrArg nv (by rw[<-D,show (x%y)=0 by omega,MT]))))))
 have zj:=eq_of_beq V;exact lB 26 V (ak (aa d [.o (nv x) 0 0 2] (lP 2 0 (nc x) d (fun _ d=>ae d [(2,0,2)] (nv x) (congrArg nv (by rw[<-H,show y=0 by omega,MT]))))))
theorem pT (z:Int)(b:Nat)(e:(b:Int)∣z):bA (decide (z.sign<0)) (ab z/b)=z/b:=by
 obtain ⟨k,rfl⟩:=e
 rcases Aw b with hb|hb
 ·subst hb;simp[bA,ab]
 have a:ab ((b:Int)*k)/b=k.natAbs:=by
  unfold ab
  rw[MU,MV,MO _ hb]
 have d:((b:Int)*k)/b=k:=MW _ oM;have c:((b:Int)*k).sign=k.sign:=by rw[Int.sign_mul,Int.sign_natCast_of_ne_zero oM,Int.one_mul]
 rw[a,d,c]
 unfold bA
 rcases MX k 0 with h|h|h
 ·rw[MY h];simp;omega
 ·subst h;simp
 ·rw[MZ h];simp;omega
theorem kY (a b:Rat):∀ g h:Nat,∀ up:Int,g=My a.den b.den->up=a.num*((b.den/g:Nat):Int)+b.num*((a.den/g:Nat):Int)->h=My (ab up) g ->
    (a+b).num=up/h/\(a+b).den=(a.den/g)*(b.den/h)/\(h:Int)∣up/\h∣b.den/\0<h/\0<g:=by
  intro g h up c e f;have j:0<g:=by rw[c];exact Nat.gcd_pos_of_pos_left _ a.den_pos
  have l:0<h:=by rw[f];exact M0 _ j
  have y:g∣a.den:=by rw[c];exact M1 _ _
  have u:g∣b.den:=by rw[c];exact M3 _ _
  have p:h∣g:=by rw[f];exact M3 _ _
  have o:(h:Int)∣up:=by
    have h1:h∣up.natAbs:=by rw[f];exact M1 _ _
    exact M4 (M5.2 h1) (M6.2 (M7 _))
  have i:h∣b.den:=Nat.dvd_trans p u;refine ⟨?_,?_,o,i,l,j⟩
  . show (M8 a b).num=_
    delta M8
    dsimp only
    split
    . rename_i h1
      have x:g=1:=by rw[c];exact h1
      dsimp only
      clear h1 c
      subst x;have d:h=1:=by rw[f];simp
      rw[d,e];simp
    . subst c e f
      dsimp only[M9]
      split
      . rename_i h1
        dsimp only
        unfold ab
        rw[h1];simp
      . dsimp only
        rw[Na]
        rfl
  . show (M8 a b).den=_
    delta M8
    dsimp only
    split
    . rename_i h1
      have x:g=1:=by rw[c];exact h1
      dsimp only
      clear h1 c
      subst x;have d:h=1:=by rw[f];simp
      rw[d];simp
    . subst c e f
      dsimp only[M9]
      split
      . rename_i h1
        dsimp only
        unfold ab
        rw[h1];simp
      . dsimp only
        rw[Nb]
        unfold ab at *
        rw[Nat.mul_div_assoc _ i]
theorem k7 (a b:Rat):∀ g h:Nat,g=My (ab a.num) b.den->h=My (ab b.num) a.den ->
  (a*b).num=(a.num/g)*(b.num/h)/\(a*b).den=(a.den/h)*(b.den/g)/\(g:Int)∣a.num/\(h:Int)∣b.num/\0<g/\0<h:=by
 intro g h d c;have f:0<g:=by rw[d];exact M0 _ b.den_pos
 have e:0<h:=by rw[c];exact M0 _ a.den_pos
 have j:(g:Int)∣a.num:=by
  have h1:g∣a.num.natAbs:=by rw[d];exact M1 _ _
  exact M4 (M5.2 h1) (M6.2 (M7 _))
 have i:(h:Int)∣b.num:=by
  have h1:h∣b.num.natAbs:=by rw[c];exact M1 _ _
  exact M4 (M5.2 h1) (M6.2 (M7 _))
 refine ⟨?_,?_,j,i,f,e⟩
 ·show (Nc a b).num=_
  delta Nc
  dsimp only
  rw[Na,Na,d,c];rfl
 ·show (Nc a b).den=_
  delta Nc
  dsimp only
  rw[Nb,Nb,d,c];rfl
theorem iB (n:Int)(d:Nat)(a:0<d):(mkRat n d).num=n/(My (ab n) d:Nat)/\(mkRat n d).den=d/My (ab n) d/\((My (ab n) d:Nat):Int)∣n/\0<My (ab n) d:=by
 have c:((My (ab n) d:Nat):Int)∣n:=by
  have h1:My (ab n) d∣n.natAbs:=M1 _ _;exact M4 (M5.2 h1) (M6.2 (M7 _))
 unfold mkRat
 rw[dif_neg oM,Rat.normalize_eq];exact ⟨rfl,rfl,c,M0 _ a⟩
theorem uB (b:Rat)(h:b.num≠0):(b⁻¹).num=bA (decide (b.num.sign<0)) b.den/\(b⁻¹).den=ab b.num:=by
 have e:b⁻¹=Rat.inv b:=rfl;rw[e]
 delta Rat.inv
 split
 ·rename_i h1
  rw[MY h1];simp[bA,ab]
 ·split
  ·rename_i h1
   rw[MZ h1];simp[bA,ab]
  ·omega
def LQ (k:Nat)(q:Rat):Prop:=(wds (ab q.num)).length<=k/\(wds q.den).length<=k
theorem eW (n:Nat)(w:World)(h:Hp)(g:G w h):CV 46 #[.bool false,nv n] w h (iv (n:Int)):=xn n w h g
theorem jS (x y:Int)(d:Nat)(e:d=My (ab x) (ab y))(a:(wds (ab x)).length<=1000000000)(c:(wds (ab y)).length<=1000000000)(w:World)(h:Hp)(g:G w h)(f:Tab h):CV 117 #[iv x,iv y] w h (nv d):=by
 subst e;exact Kv x y a c w h g f
theorem xR {n:Nat}:nb n=1↔n=1:=by
 rcases Aw n with h|h
 ·subst h;simp[nb]
 ·have h1:=co h
  constructor
  ·intro e;rw[e] at h1;omega
  ·intro e;subst e;rfl
theorem qp {n:Nat}:nb n=0↔n=0:=by
 rcases mY n with ⟨h1,h2⟩|⟨h1,h2⟩<;>omega
theorem mT {q:Rat}(h:q.den=1):qd q=0:=by unfold qd;rw[if_pos h]
theorem Fn {q:Rat}(h:q.den≠1):qd q=q.den:=by unfold qd;rw[if_neg h]
theorem Ef {q:Rat}:qd q=0↔q.den=1:=by
 unfold qd
 have:=q.den_pos
 split<;>omega
theorem Lc (q:Rat):(((nb (qd q):Nat):Int) == (0:Int))=decide (q.den=1):=by
 rw[Bool.eq_iff_iff]
 simp only[beq_iff_eq,decide_eq_true_eq]
 rw[<-Ef,<-qp]
 omega
theorem jv {q:Rat}{z:Int}{d:Nat}(hz:q.num=z)(a:qd q=d):Value.agg #[.bool (af z),.int .u64 (lo (ab z)),.string (hi (ab z)),.int .u64 (lo d),.string (hi d)]=qv q:=by subst hz a;rfl
theorem LQ.qd {k:Nat}{q:Rat}(h:LQ k q):(wds (qd q)).length<=k:=by
 unfold Go.Proofs.YtlidpooijdogdaaGreatDoor.qd
 split
 ·exact Mv _
 ·exact h.2
theorem I9 (a:Rat)(ha:LQ 1000000000 a)(w:World)(h:Hp)(g:G w h):CV 118 #[iv a.num,nv a.den] w h (qv a):=by
 have c:=sS g;obtain ⟨i,l⟩:=ha;have f:=@xR a.den;refine go Tryz.func118 [(0,iv a.num),(1,nv a.den)] rfl (aD (lA 2 47 (ic a.num) c (fun u w2 x c=>lA 3 45 (nc a.den) c (fun z C p c=>lA 4 49 a6 c (fun B D y c=>ah (aa c [.o (nv a.den) 1 0 2] (aq 6 c (f0 a.den cX _ _ c.g) (fun _ _ c=>?_))))))));cases e:(((nb a.den:Nat):Int) == (1:Int))
 .
  have j:=aj e;exact lB 7 e (ag (cK (aa c [.o (iv a.num) 2 0 3,.o (nv a.den) 1 0 2,.v (.agg #[.bool (af a.num),uV (lo (ab a.num)),.string (hi (ab a.num)),uV (lo a.den),.string (hi a.den)])] (lP 0 0 ([.bool (af a.num),uV (lo (ab a.num)),.string (hi (ab a.num)),uV (lo a.den),.string (hi a.den)]) c (fun _ c=>ae c [(0,0,5)] (.agg #[.bool (af a.num),uV (lo (ab a.num)),.string (hi (ab a.num)),uV (lo a.den),.string (hi a.den)]) (jv (q:=a) (d:=a.den) rfl (Fn oM)))))))
 have j:=eq_of_beq e;exact lB 7 e (ak (aa c [.o (iv a.num) 2 0 3,.v (.agg #[.bool (af a.num),uV (lo (ab a.num)),.string (hi (ab a.num)),uV 0,eS])] (lP 0 0 ([.bool (af a.num),uV (lo (ab a.num)),.string (hi (ab a.num)),uV 0,eS]) c (fun _ c=>ae c [(0,0,5)] (.agg #[.bool (af a.num),uV (lo (ab a.num)),.string (hi (ab a.num)),uV 0,eS]) (jv (q:=a) (d:=0) rfl (mT oM))))))
theorem kp (q:Rat)(z:Int)(d:Nat)(hz:q.num=z)(a:d=q.den)(c:LQ 1000000000 q)(w:World)(h:Hp)(g:G w h):CV 118 #[iv z,nv d] w h (qv q):=by
 subst hz a;exact I9 q c w h g
theorem cc (z:Int)(g:Nat)(a:(g:Int)∣z):ab (z/g)<=ab z:=by
 unfold ab
 rcases Aw g with h|h
 ·subst h;simp
 ·obtain ⟨k,rfl⟩:=a
  rw[MW _ oM,MU,MV];exact MP _ h
theorem io (a b:Nat)(z:0<b)(f:(wds a).length<=1000000000)(u:(wds b).length<=1000000000)(w:World)(h:Hp)(g:G w h):CV 120 #[nv a,nv b] w h (nv (a/b)):=by
 have d:=sS g;have j:=@xR b;refine go Tryz.func120 [(0,nv a),(1,nv b)] rfl (aD (lA 2 45 (nc a) d (fun y w2 B d=>lA 3 45 (nc b) d (fun D H x d=>lA 4 45 ([uV 0,eS]) d (fun F I C d=>ah (aa d [.o (nv b) 1 0 2] (aq 9 d (f0 b cX _ _ d.g) (fun _ _ d=>?_))))))));cases e:(((nb b:Nat):Int) == (1:Int))
 .
  have p:=aj e;exact lB 10 e (ag (cK (aa d [.o (nv a) 2 0 2,.o (nv b) 1 0 2] (aq 15 d (Jr a b oM aM aM _ _ d.g) (fun _ _ d=>lL d [.c,.v (nv (a/b)),.v (nv (a%b)),.v qT] (lA 5 45 ([uV 0,eS]) d (fun i _ _ d=>lA 6 45 ([uV 0,eS]) d (fun l _ _ d=>lP 1 0 (nc (a/b)) d (fun _ d=>lP 0 0 (nc (a%b)) d (fun _ d=>lL d ac (aG (lL d [.o (nv (a/b)) 1 0 2] (lP 2 0 (nc (a/b)) d (fun _ d=>ae d [(2,0,2)] (nv (a/b)) rfl))))))))))))))
 have p:=eq_of_beq e;exact lB 10 e (ak (aa d [.o (nv a) 2 0 2] (lP 0 0 (nc a) d (fun _ d=>ae d [(0,0,2)] (nv a) (by rw[show b=1 by omega,Nat.div_one])))))
theorem mG (z:Int)(b:Nat)(l:0<b)(e:(b:Int)∣z)(c:(wds (ab z)).length<=1000000000)(f:(wds b).length<=1000000000)(w:World)(h:Hp)(g:G w h):CV 119 #[iv z,nv b] w h (iv (z/b)):=by
 have a:=sS g;have d:(wds (ab z/b)).length<=1000000000:=av (F2 _ _) c;refine go Tryz.func119 [(0,iv z),(1,nv b)] rfl (aD (lA 2 47 (ic z) a (fun j w2 o a=>lA 3 45 (nc b) a (fun u y i a=>lA 4 47 ([qF,uV 0,eS]) a (fun x B p a=>ah (cR 8 [] mixed a ar ?_))))));exact eO 0 5 [(2,0,3)] (iv z) a (eO 3 8 [(2,0,3)] (iv z) a (eO 5 10 [(1,0,2)] (nv b) a (au 1 6 a (fun _ _ a=>mi z cX _ _ a.g) (fun _ _ a=>eV 2 7 (.bool (decide (((z).sign:Int)<(0:Int)))) (au 4 9 a (fun _ _ a=>wG z _ _ a.g) (fun _ _ a=>au 6 11 a (fun _ _ a=>io (ab z) b aM cX cX _ _ a.g) (fun _ _ a=>au 7 12 a (fun _ _ a=>gf (decide (((z).sign:Int)<(0:Int))) ((ab z)/b) cX _ _ a.g) (fun _ _ a=>bS a (fun _ _ a=>tP 8 0 0 (ic (bA (decide (((z).sign:Int)<(0:Int))) ((ab z)/b))) a (fun _ a=>tN (kX (a.ret [(0,0,3)] (iv (bA (decide (((z).sign:Int)<(0:Int))) ((ab z)/b))) (congrArg iv (pT z b e))))))))))))))
theorem iQ (z:Int)(d:Nat)(i:(wds (ab z)).length+(wds d).length<=1000000000)(w:World)(h:Hp)(g:G w h):CV 146 #[iv z,nv d] w h (iv (z*d)):=by
 have a:=sS g;refine go Tryz.func146 [(0,iv z),(1,nv d)] rfl (aD (lA 2 47 (ic z) a (fun c w2 f a=>lA 3 45 (nc d) a (fun u p e a=>lA 4 47 ([qF,uV 0,eS]) a (fun o l j a=>ah (cR 4 [] mixed a ar ?_))))));exact eO 0 5 [(2,0,3)] (iv z) a (eO 1 6 [(1,0,2)] (nv d) a (au 2 7 a (fun _ _ a=>eW d _ _ a.g) (fun _ _ a=>au 3 8 a (fun _ _ a=>EJ z (d:Int) cX _ _ a.g) (fun _ _ a=>bS a (fun _ _ a=>tP 4 0 0 (ic (z*(d:Int))) a (fun _ a=>tN (kX (a.ret [(0,0,3)] (iv (z*(d:Int))) rfl))))))))
theorem mL (a:Rat)(ha:LQ 100000000 a)(w:World)(h:Hp)(g:G w h):CV 141 #[qv a] w h (.bool (decide (a.den=1))):=by
 have d:=sS g;have f:=ha.qd;exact go Tryz.func141 [(0,qv a)] rfl (aD (lA 1 49 (qc a) d (fun e w2 l d=>lL d ac (aG (lL d [.v (qP e 3),.o (nv (qd a)) 0 3 2] (aq 5 d (f0 (qd a) cX _ _ d.g) (fun i j d=>lL d [.v (.bool (((nb (qd a):Nat):Int) == (0:Int))),.c] (ae d [] (.bool (((nb (qd a):Nat):Int) == (0:Int))) (congrArg Value.bool (Lc a))))))))))
theorem fL (a:Rat)(ha:LQ 100000000 a)(w:World)(h:Hp)(g:G w h):CV 107 #[qv a] w h (nv a.den):=by
 have c:=sS g;refine go Tryz.func107 [(0,qv a)] rfl (aD (lA 1 49 (qc a) c (fun f w2 p c=>lA 2 45 ([uV 0,eS]) c (fun x l j c=>ah (aa c [.o (qv a) 1 0 5] (aq 4 c (mL a aM _ _ c.g) (fun u i c=>?_)))))));cases e:(decide (a.den=1))
 .
  have d:=oF e;exact ag (cK (aa c [.v (qP f 3),.o (nv (qd a)) 1 3 2] (lP 0 0 (nc (qd a)) c (fun _ c=>ae c [(0,0,2)] (nv (qd a)) (by rw[Fn (by simpa using (by assumption:decide (a.den=1)=false))])))))
 have d:=oT e;exact ak (aD (aq 5 c (JV 1 oM _ _ c.g) (fun _ _ c=>lP 0 0 (nc 1) c (fun _ c=>ae c [(0,0,2)] (nv 1) (by rw[show a.den=1 by simpa using (by assumption:decide (a.den=1)=true)])))))
theorem Kt (a:Rat)(w:World)(h:Hp)(g:G w h):CV 105 #[qv a] w h (iv a.num):=by
 have c:=sS g;exact go Tryz.func105 [(0,qv a)] rfl (aD (lA 1 49 (qc a) c (fun d w2 f c=>lA 2 47 ([qF,uV 0,eS]) c (fun l j e c=>aG (lL c [.v (pB d),.o (iv a.num) 1 0 3] (lP 0 0 (ic a.num) c (fun i c=>ae c [(0,0,3)] (iv a.num) rfl)))))))
theorem jy (a:Rat)(ha:LQ 100000000 a)(w:World)(h:Hp)(g:G w h):CV 109 #[qv a] w h (iV a.num.sign):=by
 have c:=sS g;obtain ⟨f,e⟩:=ha;exact go Tryz.func109 [(0,qv a)] rfl (aD (lA 1 49 (qc a) c (fun d w2 l c=>lL c ac (aG (lL c [.v (pB d),.o (iv a.num) 0 0 3] (aq 5 c (mi a.num cX _ _ c.g) (fun i j c=>lL c ac (ae c [] (iV ((a.num).sign)) rfl))))))))
theorem BG (z:Int)(h0 : -9223372036854775808<=z)(h1:z<=9223372036854775807)(w:World)(h:Hp)(g:G w h):CV 29 #[iV z] w h (qv (z:Rat)):=by
 have a:=sS g;exact go Tryz.func29 [(0,iV z)] rfl (aD (lA 2 49 a6 a (fun e w2 i a=>aG (lL a ac (aq 4 a (Le z oM oM _ _ a.g) (fun f c a=>lL a [.v (.agg #[.bool (af z),uV (lo (ab z)),.string (hi (ab z)),uV 0,eS])] (lP 0 0 ([.bool (af z),uV (lo (ab z)),.string (hi (ab z)),uV 0,eS]) a (fun j a=>ae a [(0,0,5)] (.agg #[.bool (af z),uV (lo (ab z)),.string (hi (ab z)),uV 0,eS]) (jv (d:=0) (Nd z) (mT (Nf z)))))))))))
theorem JY (a:Rat)(ha:LQ 100000000 a)(w:World)(h:Hp)(g:G w h):CV 296 #[qv a] w h (qv (-a)):=by
 have c:=sS g;obtain ⟨f,e⟩:=ha;refine go Tryz.func296 [(0,qv a)] rfl (aD (lA 1 49 (qc a) c (fun d w2 l c=>lA 2 49 a6 c (fun x u j c=>ah (cR 6 [] mixed c ar ?_)))));exact eV 0 3 (pB d) (eO 1 4 [(1,0,3)] (iv a.num) c (eV 3 6 (qP d 3) (eO 4 7 [(1,3,2)] (nv (qd a)) c (au 2 5 c (fun _ _ c=>In a.num cX _ _ c.g) (fun o i c=>eV 5 8 (.agg #[.bool (af (-a.num)),uV (lo (ab (-a.num))),.string (hi (ab (-a.num))),uV (lo (qd a)),.string (hi (qd a))]) (bS c (fun p _ c=>tP 6 0 0 ([.bool (af (-a.num)),uV (lo (ab (-a.num))),.string (hi (ab (-a.num))),uV (lo (qd a)),.string (hi (qd a))]) c (fun _ c=>tN (kX (c.ret [(0,0,5)] (.agg #[.bool (af (-a.num)),uV (lo (ab (-a.num))),.string (hi (ab (-a.num))),uV (lo (qd a)),.string (hi (qd a))]) (jv (Ng a) (by unfold qd;rw[Nh]))))))))))))
theorem ue (z:Int)(d:Nat)(u:0<d)(l:(wds (ab z)).length<=1000000000)(j:(wds d).length<=1000000000)(w:World)(h:Hp)(g:G w h)(x:Tab h):CV 80 #[iv z,nv d] w h (qv (mkRat z d)):=by
 have a:=((sS g).add (K:=fun C=>Tab C) x);obtain ⟨c,e,i,p⟩:=iB z d u;obtain ⟨q,hq⟩:∃ q,q=My (ab z) d:=⟨_,rfl⟩;rw[<-hq] at c e i p
 have y:(wds q).length<=1000000000:=av (by rw[hq];exact Ni _ u) j;have D:LQ 1000000000 (mkRat z d):=⟨by rw[c];exact av (cc z q i) l,by rw[e];exact av (F2 _ _) j⟩;refine go Tryz.func80 [(0,iv z),(1,nv d)] rfl (aD (lA 2 47 (ic z) a (fun H w2 I a=>lA 3 45 (nc d) a (fun L O F a=>lA 4 49 a6 a (fun M Q J a=>ah ?_)))));have o:=a;refine cR 5 [⟨4,5,.cells (MR [uV 0,eS]) 45 (0,0)⟩] mixed a (bO (fD kR (fun _ _=>by kernel_rfl)) ar) (eO 0 6 [(2,0,3)] (iv z) a (eO 1 7 [(1,0,2)] (nv d) a (au 2 8 a (fun _ _ a=>eW d _ _ a.g) (fun _ _ a=>au 3 9 a (fun _ _ a=>jS z (d:Int) q (by first|assumption|exact hq) cX (show (wds d).length<=1000000000 by first|assumption|omega) _ _ a.g a.f.1) (fun _ _ a=>iO [] o a 45 [uV 0,eS] (fun _ _ B a=>tP 5 0 0 (nc q) a (fun _ a=>tN (cQ (cR 7 [] mixed a ar ?_)))))))));exact eO 0 10 [(3,0,3)] (iv z) a (eO 1 11 [(0,0,2)] (nv q) a (eO 3 13 [(2,0,2)] (nv d) a (eO 4 14 [(0,0,2)] (nv q) a (au 2 12 a (fun _ _ a=>mG z q aM aM cX cX _ _ a.g) (fun _ _ a=>au 5 15 a (fun _ _ a=>io d q aM cX cX _ _ a.g) (fun _ _ a=>au 6 16 a (fun _ _ a=>kp (mkRat z d) (z/(q:Int)) (d/q) (by first|assumption|exact c|exact (c).symm) (by first|assumption|exact e.symm) aM _ _ a.g) (fun _ _ a=>bS a (fun _ _ a=>tP 7 1 0 (qc (mkRat z d)) a (fun _ a=>tN (kX (a.ret [(1,0,5)] (qv (mkRat z d)) rfl)))))))))))
theorem dW (a:Rat)(ha:LQ 100000000 a)(h1:a.den=1)(w:World)(h:Hp)(g:G w h):CV 141 #[qv a] w h (.bool true):=by
 have:=mL a ha w h g;rwa [decide_eq_true h1] at this
theorem fV (a:Rat)(ha:LQ 100000000 a)(h1:a.den≠1)(w:World)(h:Hp)(g:G w h):CV 141 #[qv a] w h (.bool false):=by
 have:=mL a ha w h g;rwa [decide_eq_false h1] at this
theorem E7 (x y z:Int)(e:z=x+y)(a:(wds (ab x)).length+(wds (ab y)).length<=999999999)(w:World)(h:Hp)(g:G w h):CV 297 #[iv x,iv y] w h (iv z):=by
 subst e;exact IJ x y a w h g
theorem jb (x y:Int):(wds (ab (x*y))).length<=(wds (ab x)).length+(wds (ab y)).length:=by
 have:ab (x*y)=ab x*ab y:=MU x y;rw[this];exact dB
theorem dK (x:Int)(d:Nat):(wds (ab (x*((d:Nat):Int)))).length<=(wds (ab x)).length+(wds d).length:=jb x (d:Int)
theorem qV (x y:Int):(wds (ab (x+y))).length<=(wds (ab x)).length+(wds (ab y)).length+1 :=
 eb (dg (show ab (x+y)<=ab x+ab y from Nj x y)) kJ
theorem jo {a b:Rat}(ha:a.den=1)(c:b.den=1):(a+b).num=a.num+b.num/\(a+b).den=1:=by
 obtain ⟨e,d,h,j,i,f⟩:=kY a b 1 1 (a.num+b.num) (by rw[ha,c];rfl) (by rw[ha,c];simp) (by simp);rw[ha,c] at d
 exact ⟨by simpa using e,by simpa using d⟩
theorem ji {a b:Rat}(ha:a.den=1)(c:b.den=1):(a*b).num=a.num*b.num/\(a*b).den=1:=by
 obtain ⟨e,d,h,j,i,f⟩:=k7 a b 1 1 (by rw[c];simp) (by rw[ha];simp);rw[ha,c] at d
 exact ⟨by simpa using e,by simpa using d⟩
theorem G1 (a b:Rat)(ha:LQ 100000000 a)(u:LQ 100000000 b)(f:a.den=1)(i:b.den=1)(w:World)(h:Hp)(g:G w h)(y:Tab h):CV 293 #[qv a,qv b] w h (qv (a+b)):=by
 have e:=((sS g).add (K:=fun D=>Tab D) y);have j:=ha;have l:=u;obtain ⟨C,F⟩:=j;obtain ⟨z,x⟩:=l;exact go Tryz.func293 [(0,qv a),(1,qv b)] rfl (aD (lA 2 49 (qc a) e (fun p w2 I e=>lA 3 49 (qc b) e (fun B M H e=>lA 4 49 a6 e (fun L O J e=>ah (aa e [.o (qv a) 2 0 5] (aq 11 e (dW a aM aM _ _ e.g) (fun _ _ e=>lL e [.c,.o (qv b) 1 0 5] (aq 14 e (dW b aM aM _ _ e.g) (fun _ _ e=>lL e [.v qT] (ak (aa e [.v (pB p),.o (iv a.num) 2 0 3,.v (pB B),.o (iv b.num) 1 0 3] (aq 20 e (IJ a.num b.num cX _ _ e.g) (fun _ _ e=>lL e [.v (.agg #[.bool (af (a.num+b.num)),uV (lo (ab (a.num+b.num))),.string (hi (ab (a.num+b.num))),uV 0,eS])] (lP 0 0 ([.bool (af (a.num+b.num)),uV (lo (ab (a.num+b.num))),.string (hi (ab (a.num+b.num))),uV 0,eS]) e (fun _ e=>ae e [(0,0,5)] (.agg #[.bool (af (a.num+b.num)),uV (lo (ab (a.num+b.num))),.string (hi (ab (a.num+b.num))),uV 0,eS]) (jv (d:=0) (jo f i).1 (mT (jo f i).2))))))))))))))))))
theorem FZ (a b:Rat)(ha:LQ 100000000 a)(x:LQ 100000000 b)(Q:a.den≠1)(w:World)(h:Hp)(g:G w h)(M:Tab h):CV 293 #[qv a,qv b] w h (qv (a+b)):=by
 have c:=((sS g).add (K:=fun h_=>Tab h_) M);have B:=ha;have C:=x;obtain ⟨Z,p⟩:=ha;obtain ⟨O,i⟩:=x;obtain ⟨q,hq⟩:∃ q,q=My a.den b.den:=⟨_,rfl⟩;obtain ⟨up,hup⟩:∃ up,up=a.num*((b.den/q:Nat):Int)+b.num*((a.den/q:Nat):Int):=⟨_,rfl⟩;obtain ⟨r,hr⟩:∃ r,r=My (ab up) q:=⟨_,rfl⟩;obtain ⟨e,l,y,S,L,z⟩:=kY a b q r up hq hup hr;have D:(wds q).length<=100000000:=av (by rw[hq];exact MQ _ a.den_pos) p;have hrl:(wds r).length<=100000000:=av (by rw[hr];exact Ni _ z) D;have haq:(wds (a.den/q)).length<=100000000:=av (F2 _ _) p;have hbq:(wds (b.den/q)).length<=100000000:=av (F2 _ _) i;have U:(wds (b.den/r)).length<=100000000:=av (F2 _ _) i;have hx1:=dK a.num (b.den/q);have H:=dK b.num (a.den/q);have X:(wds (ab up)).length<=999999999:=eb (by rw[hup];exact qV _ _) oM;have hdl:=@dB (a.den/q) (b.den/r);have hLQ:LQ 1000000000 (a+b):=⟨by rw[e];exact av (cc up r y) oM,by rw[l];omega⟩;have ha:=B;have x:=C;refine go Tryz.func293 [(0,qv a),(1,qv b)] rfl (aD (lA 2 49 (qc a) c (fun J w2 h3 c=>lA 3 49 (qc b) c (fun F w5 h6 c=>lA 4 49 a6 c (fun Y w8 h9 c=>ah (aa c [.o (qv a) 2 0 5] (aq 11 c (fV a aM aM _ _ c.g) (fun _ _ c=>lL c ac (lG 13 ?_)))))))));refine lG 14 (lL c [.v qF] (ag (cK (cQ ?_))));have d:=c;refine cR 8 [⟨7,5,.cells (MR [uV 0,eS]) 45 (0,0)⟩] mixed c (bO (fD kR (fun _ _=>by kernel_rfl)) ar) (eO 0 22 [(2,0,5)] (qv a) c (eO 3 25 [(1,0,5)] (qv b) c (au 1 23 c (fun _ _ c=>fL a aM _ _ c.g) (fun _ _ c=>au 2 24 c (fun _ _ c=>eW a.den _ _ c.g) (fun _ _ c=>au 4 26 c (fun _ _ c=>fL b aM _ _ c.g) (fun _ _ c=>au 5 27 c (fun _ _ c=>eW b.den _ _ c.g) (fun _ _ c=>au 6 28 c (fun _ _ c=>jS (a.den:Int) (b.den:Int) q (by first|assumption|exact hq) (show (wds a.den).length<=1000000000 by first|assumption|omega) (show (wds b.den).length<=1000000000 by first|assumption|omega) _ _ c.g c.f.1) (fun _ _ c=>iO [] d c 45 [uV 0,eS] (fun _ _ I c=>tP 8 0 0 (nc q) c (fun _ c=>tN (cQ ?_)))))))))));have d:=c;refine FF 10 [⟨8,6,.cells (MR [uV 0,eS]) 45 (0,0)⟩,⟨9,7,.cells (MR [uV 0,eS]) 45 (0,0)⟩] [] mixed c (bO (fD kR (fun _ _=>by kernel_rfl)) (bO (fD kR (fun _ _=>by kernel_rfl)) ar)) (eO 0 29 [(3,0,5)] (qv a) c (eO 2 31 [(0,0,2)] (nv q) c (Bw 4 33 [(2,0,5)] (qv b) d c (Bw 6 35 [(0,0,2)] (nv q) d c (au 1 30 c (fun _ _ c=>fL a aM _ _ c.g) (fun _ _ c=>au 3 32 c (fun _ _ c=>io a.den q aM cX cX _ _ c.g) (fun _ _ c=>au 5 34 c (fun _ _ c=>fL b aM _ _ c.g) (fun _ _ c=>au 7 36 c (fun _ _ c=>io b.den q aM cX cX _ _ c.g) (fun _ _ c=>F7 d c 45 [uV 0,eS] 45 [uV 0,eS] (fun _ _ V b37 u j c=>tP 10 0 0 (nc (a.den/q)) c (fun _ c=>?_) (hz:=i5 u)))))))))));refine tP 11 1 0 (nc (b.den/q)) c (fun _ c=>?_) (hz:=i5 j);refine tN (cQ ?_);have d:=c;refine cR 10 [⟨9,8,.cells (MR [qF,uV 0,eS]) 47 (0,0)⟩] mixed c (bO (fD kR (fun _ _=>by kernel_rfl)) ar) (eV 0 37 (pB J) (eO 1 38 [(5,0,3)] (iv a.num) c (eO 2 39 [(1,0,2)] (nv (b.den/q)) c (eV 4 41 (pB F) (eO 5 42 [(4,0,3)] (iv b.num) c (eO 6 43 [(0,0,2)] (nv (a.den/q)) c (au 3 40 c (fun _ _ c=>iQ a.num (b.den/q) cX _ _ c.g) (fun _ _ c=>au 7 44 c (fun _ _ c=>iQ b.num (a.den/q) cX _ _ c.g) (fun _ _ c=>au 8 45 c (fun _ _ c=>E7 (a.num*(((b.den/q):Nat):Int)) (b.num*(((a.den/q):Nat):Int)) up hup oM _ _ c.g) (fun _ _ c=>iO [] d c 47 [qF,uV 0,eS] (fun _ _ zb c=>tP 10 0 0 (ic up) c (fun _ c=>tN (cQ ?_)))))))))))));have d:=c;refine cR 5 [⟨4,9,.cells (MR [uV 0,eS]) 45 (0,0)⟩] mixed c (bO (fD kR (fun _ _=>by kernel_rfl)) ar) (eO 0 46 [(0,0,3)] (iv up) c (eO 1 47 [(3,0,2)] (nv q) c (au 2 48 c (fun _ _ c=>eW q _ _ c.g) (fun _ _ c=>au 3 49 c (fun _ _ c=>jS up (q:Int) r (by first|assumption|exact hr) cX (show (wds q).length<=1000000000 by first|assumption|omega) _ _ c.g c.f.1) (fun _ _ c=>iO [] d c 45 [uV 0,eS] (fun _ _ W c=>tP 5 0 0 (nc r) c (fun _ c=>tN (bH [(3,pB F),(4,pB Y),(6,pB V),(8,pB zb),(9,pB W)] ?_))))))));refine cQ (cR 10 [] mixed c ar ?_);exact eO 0 50 [(1,0,3)] (iv up) c (eO 1 51 [(0,0,2)] (nv r) c (eO 3 53 [(2,0,2)] (nv (a.den/q)) c (eO 4 54 [(6,0,5)] (qv b) c (eO 6 56 [(0,0,2)] (nv r) c (au 2 52 c (fun _ _ c=>mG up r aM aM cX cX _ _ c.g) (fun _ _ c=>au 5 55 c (fun _ _ c=>fL b aM _ _ c.g) (fun _ _ c=>au 7 57 c (fun _ _ c=>io b.den r aM cX cX _ _ c.g) (fun _ _ c=>au 8 58 c (fun _ _ c=>pP (a.den/q) (b.den/r) cX cX _ _ c.g) (fun _ _ c=>au 9 59 c (fun _ _ c=>kp (a+b) (up/(r:Int)) ((a.den/q)*(b.den/r)) (by first|assumption|exact e|exact (e).symm) (by first|assumption|exact l.symm) aM _ _ c.g) (fun _ _ c=>bS c (fun _ _ c=>tP 10 5 0 (qc (a+b)) c (fun _ c=>tN (kX (c.ret [(5,0,5)] (qv (a+b)) rfl))))))))))))))
theorem Ha (a b:Rat)(ha:LQ 100000000 a)(y:LQ 100000000 b)(U:a.den=1)(hwb:b.den≠1)(w:World)(h:Hp)(g:G w h)(O:Tab h):CV 293 #[qv a,qv b] w h (qv (a+b)):=by
 have d:=((sS g).add (K:=fun h_=>Tab h_) O);have C:=ha;have D:=y;obtain ⟨ha1,x⟩:=ha;obtain ⟨S,j⟩:=y;obtain ⟨q,hq⟩:∃ q,q=My a.den b.den:=⟨_,rfl⟩;obtain ⟨up,hup⟩:∃ up,up=a.num*((b.den/q:Nat):Int)+b.num*((a.den/q:Nat):Int):=⟨_,rfl⟩;obtain ⟨r,hr⟩:∃ r,r=My (ab up) q:=⟨_,rfl⟩;obtain ⟨i,u,z,V,L,B⟩:=kY a b q r up hq hup hr;have F:(wds q).length<=100000000:=av (by rw[hq];exact MQ _ a.den_pos) x;have hrl:(wds r).length<=100000000:=av (by rw[hr];exact Ni _ B) F;have haq:(wds (a.den/q)).length<=100000000:=av (F2 _ _) x;have hbq:(wds (b.den/q)).length<=100000000:=av (F2 _ _) j;have W:(wds (b.den/r)).length<=100000000:=av (F2 _ _) j;have hx1:=dK a.num (b.den/q);have I:=dK b.num (a.den/q);have Z:(wds (ab up)).length<=999999999:=eb (by rw[hup];exact qV _ _) oM;have hdl:=@dB (a.den/q) (b.den/r);have hLQ:LQ 1000000000 (a+b):=⟨by rw[i];exact av (cc up r z) oM,by rw[u];omega⟩;have ha:=C;have y:=D;refine go Tryz.func293 [(0,qv a),(1,qv b)] rfl (aD (lA 2 49 (qc a) d (fun J w2 h3 d=>lA 3 49 (qc b) d (fun H w5 h6 d=>lA 4 49 a6 d (fun b7 w8 h9 d=>ah (aa d [.o (qv a) 2 0 5] (aq 11 d (dW a aM aM _ _ d.g) (fun _ _ d=>lL d [.c,.o (qv b) 1 0 5] (aq 14 d (fV b aM aM _ _ d.g) (fun _ _ d=>lL d [.v qF] (ag (cK (cQ ?_)))))))))))));have e:=d;refine cR 8 [⟨7,5,.cells (MR [uV 0,eS]) 45 (0,0)⟩] mixed d (bO (fD kR (fun _ _=>by kernel_rfl)) ar) (eO 0 22 [(2,0,5)] (qv a) d (eO 3 25 [(1,0,5)] (qv b) d (au 1 23 d (fun _ _ d=>fL a aM _ _ d.g) (fun _ _ d=>au 2 24 d (fun _ _ d=>eW a.den _ _ d.g) (fun _ _ d=>au 4 26 d (fun _ _ d=>fL b aM _ _ d.g) (fun _ _ d=>au 5 27 d (fun _ _ d=>eW b.den _ _ d.g) (fun _ _ d=>au 6 28 d (fun _ _ d=>jS (a.den:Int) (b.den:Int) q (by first|assumption|exact hq) (show (wds a.den).length<=1000000000 by first|assumption|omega) (show (wds b.den).length<=1000000000 by first|assumption|omega) _ _ d.g d.f.1) (fun _ _ d=>iO [] e d 45 [uV 0,eS] (fun _ _ M d=>tP 8 0 0 (nc q) d (fun _ d=>tN (cQ ?_)))))))))));have e:=d;refine FF 10 [⟨8,6,.cells (MR [uV 0,eS]) 45 (0,0)⟩,⟨9,7,.cells (MR [uV 0,eS]) 45 (0,0)⟩] [] mixed d (bO (fD kR (fun _ _=>by kernel_rfl)) (bO (fD kR (fun _ _=>by kernel_rfl)) ar)) (eO 0 29 [(3,0,5)] (qv a) d (eO 2 31 [(0,0,2)] (nv q) d (Bw 4 33 [(2,0,5)] (qv b) e d (Bw 6 35 [(0,0,2)] (nv q) e d (au 1 30 d (fun _ _ d=>fL a aM _ _ d.g) (fun _ _ d=>au 3 32 d (fun _ _ d=>io a.den q aM cX cX _ _ d.g) (fun _ _ d=>au 5 34 d (fun _ _ d=>fL b aM _ _ d.g) (fun _ _ d=>au 7 36 d (fun _ _ d=>io b.den q aM cX cX _ _ d.g) (fun _ _ d=>F7 e d 45 [uV 0,eS] 45 [uV 0,eS] (fun _ _ X Q p l d=>tP 10 0 0 (nc (a.den/q)) d (fun _ d=>?_) (hz:=i5 p)))))))))));refine tP 11 1 0 (nc (b.den/q)) d (fun _ d=>?_) (hz:=i5 l);refine tN (cQ ?_);have e:=d;refine cR 10 [⟨9,8,.cells (MR [qF,uV 0,eS]) 47 (0,0)⟩] mixed d (bO (fD kR (fun _ _=>by kernel_rfl)) ar) (eV 0 37 (pB J) (eO 1 38 [(5,0,3)] (iv a.num) d (eO 2 39 [(1,0,2)] (nv (b.den/q)) d (eV 4 41 (pB H) (eO 5 42 [(4,0,3)] (iv b.num) d (eO 6 43 [(0,0,2)] (nv (a.den/q)) d (au 3 40 d (fun _ _ d=>iQ a.num (b.den/q) cX _ _ d.g) (fun _ _ d=>au 7 44 d (fun _ _ d=>iQ b.num (a.den/q) cX _ _ d.g) (fun _ _ d=>au 8 45 d (fun _ _ d=>E7 (a.num*(((b.den/q):Nat):Int)) (b.num*(((a.den/q):Nat):Int)) up hup oM _ _ d.g) (fun _ _ d=>iO [] e d 47 [qF,uV 0,eS] (fun _ _ zb d=>tP 10 0 0 (ic up) d (fun _ d=>tN (cQ ?_)))))))))))));have e:=d;refine cR 5 [⟨4,9,.cells (MR [uV 0,eS]) 45 (0,0)⟩] mixed d (bO (fD kR (fun _ _=>by kernel_rfl)) ar) (eO 0 46 [(0,0,3)] (iv up) d (eO 1 47 [(3,0,2)] (nv q) d (au 2 48 d (fun _ _ d=>eW q _ _ d.g) (fun _ _ d=>au 3 49 d (fun _ _ d=>jS up (q:Int) r (by first|assumption|exact hr) cX (show (wds q).length<=1000000000 by first|assumption|omega) _ _ d.g d.f.1) (fun _ _ d=>iO [] e d 45 [uV 0,eS] (fun _ _ Y d=>tP 5 0 0 (nc r) d (fun _ d=>tN (bH [(3,pB H),(4,pB b7),(6,pB X),(8,pB zb),(9,pB Y)] ?_))))))));refine cQ (cR 10 [] mixed d ar ?_);exact eO 0 50 [(1,0,3)] (iv up) d (eO 1 51 [(0,0,2)] (nv r) d (eO 3 53 [(2,0,2)] (nv (a.den/q)) d (eO 4 54 [(6,0,5)] (qv b) d (eO 6 56 [(0,0,2)] (nv r) d (au 2 52 d (fun _ _ d=>mG up r aM aM cX cX _ _ d.g) (fun _ _ d=>au 5 55 d (fun _ _ d=>fL b aM _ _ d.g) (fun _ _ d=>au 7 57 d (fun _ _ d=>io b.den r aM cX cX _ _ d.g) (fun _ _ d=>au 8 58 d (fun _ _ d=>pP (a.den/q) (b.den/r) cX cX _ _ d.g) (fun _ _ d=>au 9 59 d (fun _ _ d=>kp (a+b) (up/(r:Int)) ((a.den/q)*(b.den/r)) (by first|assumption|exact i|exact (i).symm) (by first|assumption|exact u.symm) aM _ _ d.g) (fun _ _ d=>bS d (fun _ _ d=>tP 10 5 0 (qc (a+b)) d (fun _ d=>tN (kX (d.ret [(5,0,5)] (qv (a+b)) rfl))))))))))))))
theorem CP (a b:Rat)(ha:LQ 100000000 a)(c:LQ 100000000 b)(w:World)(h:Hp)(g:G w h)(d:Tab h):CV 293 #[qv a,qv b] w h (qv (a+b)):=by
 by_cases h1:a.den=1
 ·by_cases h2:b.den=1
  ·exact G1 a b ha c h1 h2 w h g d
  ·exact Ha a b ha c h1 h2 w h g d
 ·exact FZ a b ha c h1 w h g d
theorem HK (a b:Rat)(ha:LQ 100000000 a)(u:LQ 100000000 b)(f:a.den=1)(i:b.den=1)(w:World)(h:Hp)(g:G w h)(y:Tab h):CV 295 #[qv a,qv b] w h (qv (a*b)):=by
 have e:=((sS g).add (K:=fun D=>Tab D) y);have j:=ha;have l:=u;obtain ⟨C,F⟩:=j;obtain ⟨z,x⟩:=l;exact go Tryz.func295 [(0,qv a),(1,qv b)] rfl (aD (lA 2 49 (qc a) e (fun p w2 I e=>lA 3 49 (qc b) e (fun B M H e=>lA 4 49 a6 e (fun L O J e=>ah (aa e [.o (qv a) 2 0 5] (aq 8 e (dW a aM aM _ _ e.g) (fun _ _ e=>lL e [.c,.o (qv b) 1 0 5] (aq 11 e (dW b aM aM _ _ e.g) (fun _ _ e=>lL e [.v qT] (ak (aa e [.v (pB p),.o (iv a.num) 2 0 3,.v (pB B),.o (iv b.num) 1 0 3] (aq 17 e (EJ a.num b.num cX _ _ e.g) (fun _ _ e=>lL e [.v (.agg #[.bool (af (a.num*b.num)),uV (lo (ab (a.num*b.num))),.string (hi (ab (a.num*b.num))),uV 0,eS])] (lP 0 0 ([.bool (af (a.num*b.num)),uV (lo (ab (a.num*b.num))),.string (hi (ab (a.num*b.num))),uV 0,eS]) e (fun _ e=>ae e [(0,0,5)] (.agg #[.bool (af (a.num*b.num)),uV (lo (ab (a.num*b.num))),.string (hi (ab (a.num*b.num))),uV 0,eS]) (jv (d:=0) (ji f i).1 (mT (ji f i).2))))))))))))))))))
theorem GN (a b:Rat)(ha:LQ 100000000 a)(p:LQ 100000000 b)(M:a.den≠1)(w:World)(h:Hp)(g:G w h)(J:Tab h):CV 295 #[qv a,qv b] w h (qv (a*b)):=by
 have c:=((sS g).add (K:=fun U=>Tab U) J);have B:=ha;have C:=p;obtain ⟨z,l⟩:=ha;obtain ⟨u,i⟩:=p;obtain ⟨q,hq⟩:∃ q,q=My (ab a.num) b.den:=⟨_,rfl⟩;obtain ⟨r,hr⟩:∃ r,r=My (ab b.num) a.den:=⟨_,rfl⟩;obtain ⟨e,j,y,x,V,I⟩:=k7 a b q r hq hr;have hql:(wds q).length<=100000000:=av (by rw[hq];exact Ni _ b.den_pos) i;have X:(wds r).length<=100000000:=av (by rw[hr];exact Ni _ a.den_pos) l;have Z:(wds (ab (a.num/(q:Int)))).length<=100000000:=av (cc _ _ y) z;have O:(wds (ab (b.num/(r:Int)))).length<=100000000:=av (cc _ _ x) u;have H:(wds (a.den/r)).length<=100000000:=av (F2 _ _) l;have Y:(wds (b.den/q)).length<=100000000:=av (F2 _ _) i;have W:=@dB (a.den/r) (b.den/q);have hnl:=jb (a.num/(q:Int)) (b.num/(r:Int));have hLQ:LQ 1000000000 (a*b):=⟨by rw[e];omega,by rw[j];omega⟩;have ha:=B;have p:=C;refine go Tryz.func295 [(0,qv a),(1,qv b)] rfl (aD (lA 2 49 (qc a) c (fun D w2 h3 c=>lA 3 49 (qc b) c (fun F w5 h6 c=>lA 4 49 a6 c (fun S w8 h9 c=>ah (aa c [.o (qv a) 2 0 5] (aq 8 c (fV a aM aM _ _ c.g) (fun _ _ c=>lL c ac (lG 10 ?_)))))))));refine lG 11 (lL c [.v qF] (ag (cK (cQ ?_))));have d:=c;refine cR 7 [⟨6,5,.cells (MR [uV 0,eS]) 45 (0,0)⟩] mixed c (bO (fD kR (fun _ _=>by kernel_rfl)) ar) (eV 0 19 (pB D) (eO 1 20 [(2,0,3)] (iv a.num) c (eO 2 21 [(1,0,5)] (qv b) c (au 3 22 c (fun _ _ c=>fL b aM _ _ c.g) (fun _ _ c=>au 4 23 c (fun _ _ c=>eW b.den _ _ c.g) (fun _ _ c=>au 5 24 c (fun _ _ c=>jS a.num (b.den:Int) q (by first|assumption|exact hq) cX (show (wds b.den).length<=1000000000 by first|assumption|omega) _ _ c.g c.f.1) (fun _ _ c=>iO [] d c 45 [uV 0,eS] (fun _ _ L c=>tP 7 0 0 (nc q) c (fun _ c=>tN (cQ ?_))))))))));have d:=c;refine cR 7 [⟨6,6,.cells (MR [uV 0,eS]) 45 (0,0)⟩] mixed c (bO (fD kR (fun _ _=>by kernel_rfl)) ar) (eV 0 25 (pB F) (eO 1 26 [(2,0,3)] (iv b.num) c (eO 2 27 [(3,0,5)] (qv a) c (au 3 28 c (fun _ _ c=>fL a aM _ _ c.g) (fun _ _ c=>au 4 29 c (fun _ _ c=>eW a.den _ _ c.g) (fun _ _ c=>au 5 30 c (fun _ _ c=>jS b.num (a.den:Int) r (by first|assumption|exact hr) cX (show (wds a.den).length<=1000000000 by first|assumption|omega) _ _ c.g c.f.1) (fun _ _ c=>iO [] d c 45 [uV 0,eS] (fun _ _ Q c=>tP 7 0 0 (nc r) c (fun _ c=>tN (cQ (cR 19 [] mixed c ar ?_)))))))))));refine eV 0 31 (pB D) (eO 1 32 [(4,0,3)] (iv a.num) c (eO 2 33 [(1,0,2)] (nv q) c (eV 4 35 (pB F) (eO 5 36 [(3,0,3)] (iv b.num) c (eO 6 37 [(0,0,2)] (nv r) c (eO 9 40 [(4,0,5)] (qv a) c (eO 11 42 [(0,0,2)] (nv r) c (eO 13 44 [(3,0,5)] (qv b) c (eO 15 46 [(1,0,2)] (nv q) c (au 3 34 c (fun _ _ c=>mG a.num q aM aM cX cX _ _ c.g) (fun _ _ c=>au 7 38 c (fun _ _ c=>mG b.num r aM aM cX cX _ _ c.g) (fun _ _ c=>au 8 39 c (fun _ _ c=>EJ (a.num/(q:Int)) (b.num/(r:Int)) cX _ _ c.g) (fun _ _ c=>au 10 41 c (fun _ _ c=>fL a aM _ _ c.g) (fun _ _ c=>au 12 43 c (fun _ _ c=>io a.den r aM cX cX _ _ c.g) (fun _ _ c=>au 14 45 c (fun _ _ c=>fL b aM _ _ c.g) (fun _ _ c=>au 16 47 c (fun _ _ c=>io b.den q aM cX cX _ _ c.g) (fun _ _ c=>au 17 48 c (fun _ _ c=>pP (a.den/r) (b.den/q) cX cX _ _ c.g) (fun _ _ c=>au 18 49 c (fun _ _ c=>kp (a*b) ((a.num/(q:Int))*(b.num/(r:Int))) ((a.den/r)*(b.den/q)) (by first|assumption|exact e|exact (e).symm) (by first|assumption|exact j.symm) aM _ _ c.g) (fun _ _ c=>bS c (fun _ _ c=>tP 19 2 0 (qc (a*b)) c (fun _ c=>tN (bH [(4,pB S)] ?_))))))))))))))))))))));exact kX (c.ret [(2,0,5)] (qv (a*b)) rfl)
theorem GH (a b:Rat)(ha:LQ 100000000 a)(u:LQ 100000000 b)(O:a.den=1)(W:b.den≠1)(w:World)(h:Hp)(g:G w h)(M:Tab h):CV 295 #[qv a,qv b] w h (qv (a*b)):=by
 have d:=((sS g).add (K:=fun U=>Tab U) M);have C:=ha;have D:=u;obtain ⟨B,p⟩:=ha;obtain ⟨x,j⟩:=u;obtain ⟨q,hq⟩:∃ q,q=My (ab a.num) b.den:=⟨_,rfl⟩;obtain ⟨r,hr⟩:∃ r,r=My (ab b.num) a.den:=⟨_,rfl⟩;obtain ⟨i,l,z,y,V,L⟩:=k7 a b q r hq hr;have hql:(wds q).length<=100000000:=av (by rw[hq];exact Ni _ b.den_pos) j;have Y:(wds r).length<=100000000:=av (by rw[hr];exact Ni _ a.den_pos) p;have haq:(wds (ab (a.num/(q:Int)))).length<=100000000:=av (cc _ _ z) B;have Q:(wds (ab (b.num/(r:Int)))).length<=100000000:=av (cc _ _ y) x;have I:(wds (a.den/r)).length<=100000000:=av (F2 _ _) p;have Z:(wds (b.den/q)).length<=100000000:=av (F2 _ _) j;have X:=@dB (a.den/r) (b.den/q);have hnl:=jb (a.num/(q:Int)) (b.num/(r:Int));have hLQ:LQ 1000000000 (a*b):=⟨by rw[i];omega,by rw[l];omega⟩;have ha:=C;have u:=D;refine go Tryz.func295 [(0,qv a),(1,qv b)] rfl (aD (lA 2 49 (qc a) d (fun F w2 h3 d=>lA 3 49 (qc b) d (fun H w5 h6 d=>lA 4 49 a6 d (fun S w8 h9 d=>ah (aa d [.o (qv a) 2 0 5] (aq 8 d (dW a aM aM _ _ d.g) (fun _ _ d=>lL d [.c,.o (qv b) 1 0 5] (aq 11 d (fV b aM aM _ _ d.g) (fun _ _ d=>lL d [.v qF] (ag (cK (cQ ?_)))))))))))));have e:=d;refine cR 7 [⟨6,5,.cells (MR [uV 0,eS]) 45 (0,0)⟩] mixed d (bO (fD kR (fun _ _=>by kernel_rfl)) ar) (eV 0 19 (pB F) (eO 1 20 [(2,0,3)] (iv a.num) d (eO 2 21 [(1,0,5)] (qv b) d (au 3 22 d (fun _ _ d=>fL b aM _ _ d.g) (fun _ _ d=>au 4 23 d (fun _ _ d=>eW b.den _ _ d.g) (fun _ _ d=>au 5 24 d (fun _ _ d=>jS a.num (b.den:Int) q (by first|assumption|exact hq) cX (show (wds b.den).length<=1000000000 by first|assumption|omega) _ _ d.g d.f.1) (fun _ _ d=>iO [] e d 45 [uV 0,eS] (fun _ _ b22 d=>tP 7 0 0 (nc q) d (fun _ d=>tN (cQ ?_))))))))));have e:=d;refine cR 7 [⟨6,6,.cells (MR [uV 0,eS]) 45 (0,0)⟩] mixed d (bO (fD kR (fun _ _=>by kernel_rfl)) ar) (eV 0 25 (pB H) (eO 1 26 [(2,0,3)] (iv b.num) d (eO 2 27 [(3,0,5)] (qv a) d (au 3 28 d (fun _ _ d=>fL a aM _ _ d.g) (fun _ _ d=>au 4 29 d (fun _ _ d=>eW a.den _ _ d.g) (fun _ _ d=>au 5 30 d (fun _ _ d=>jS b.num (a.den:Int) r (by first|assumption|exact hr) cX (show (wds a.den).length<=1000000000 by first|assumption|omega) _ _ d.g d.f.1) (fun _ _ d=>iO [] e d 45 [uV 0,eS] (fun _ _ J d=>tP 7 0 0 (nc r) d (fun _ d=>tN (cQ (cR 19 [] mixed d ar ?_)))))))))));refine eV 0 31 (pB F) (eO 1 32 [(4,0,3)] (iv a.num) d (eO 2 33 [(1,0,2)] (nv q) d (eV 4 35 (pB H) (eO 5 36 [(3,0,3)] (iv b.num) d (eO 6 37 [(0,0,2)] (nv r) d (eO 9 40 [(4,0,5)] (qv a) d (eO 11 42 [(0,0,2)] (nv r) d (eO 13 44 [(3,0,5)] (qv b) d (eO 15 46 [(1,0,2)] (nv q) d (au 3 34 d (fun _ _ d=>mG a.num q aM aM cX cX _ _ d.g) (fun _ _ d=>au 7 38 d (fun _ _ d=>mG b.num r aM aM cX cX _ _ d.g) (fun _ _ d=>au 8 39 d (fun _ _ d=>EJ (a.num/(q:Int)) (b.num/(r:Int)) cX _ _ d.g) (fun _ _ d=>au 10 41 d (fun _ _ d=>fL a aM _ _ d.g) (fun _ _ d=>au 12 43 d (fun _ _ d=>io a.den r aM cX cX _ _ d.g) (fun _ _ d=>au 14 45 d (fun _ _ d=>fL b aM _ _ d.g) (fun _ _ d=>au 16 47 d (fun _ _ d=>io b.den q aM cX cX _ _ d.g) (fun _ _ d=>au 17 48 d (fun _ _ d=>pP (a.den/r) (b.den/q) cX cX _ _ d.g) (fun _ _ d=>au 18 49 d (fun _ _ d=>kp (a*b) ((a.num/(q:Int))*(b.num/(r:Int))) ((a.den/r)*(b.den/q)) (by first|assumption|exact i|exact (i).symm) (by first|assumption|exact l.symm) aM _ _ d.g) (fun _ _ d=>bS d (fun _ _ d=>tP 19 2 0 (qc (a*b)) d (fun _ d=>tN (bH [(4,pB S)] ?_))))))))))))))))))))));exact kX (d.ret [(2,0,5)] (qv (a*b)) rfl)
theorem qx (a b:Rat)(ha:LQ 100000000 a)(c:LQ 100000000 b)(w:World)(h:Hp)(g:G w h)(d:Tab h):CV 295 #[qv a,qv b] w h (qv (a*b)):=by
 by_cases h1:a.den=1
 ·by_cases h2:b.den=1
  ·exact HK a b ha c h1 h2 w h g d
  ·exact GH a b ha c h1 h2 w h g d
 ·exact GN a b ha c h1 w h g d
theorem LQ.neg {k:Nat}{a:Rat}(h:LQ k a):LQ k (-a):=⟨by rw[Ng];unfold ab;rw[Nk];exact h.1,by rw[Nh];exact h.2⟩
theorem LQ.add {k l:Nat}{a b:Rat}(ha:LQ k a)(j:LQ l b):LQ (k+l+1) (a+b):=by
 obtain ⟨y,f⟩:=ha;obtain ⟨p,c⟩:=j;obtain ⟨q,hq⟩:∃ q,q=My a.den b.den:=⟨_,rfl⟩;obtain ⟨up,hup⟩:∃ up,up=a.num*((b.den/q:Nat):Int)+b.num*((a.den/q:Nat):Int):=⟨_,rfl⟩;obtain ⟨r,hr⟩:∃ r,r=My (ab up) q:=⟨_,rfl⟩;obtain ⟨h,e,d,u,o,z⟩:=kY a b q r up hq hup hr;have D:=av (F2 a.den q) f;have C:=av (F2 b.den q) c;have x:=av (F2 b.den r) c;have F:=dK a.num (b.den/q);have i:=dK b.num (a.den/q);have B:=@dB (a.den/q) (b.den/r);refine ⟨?_,by rw[e];omega⟩;rw[h];refine av (cc up r d) ?_;rw[hup];exact eb (dg (show ab _<=ab _+ab _ from Nj _ _)) (qz oM oM)
theorem LQ.mul {k l:Nat}{a b:Rat}(ha:LQ k a)(u:LQ l b):LQ (k+l) (a*b):=by
 obtain ⟨i,c⟩:=ha;obtain ⟨e,d⟩:=u;obtain ⟨h,j,f,o,y,x⟩:=k7 a b _ _ rfl rfl;refine ⟨?_,?_⟩
 ·rw[h]
  have h1:=av (cc _ _ f) i;have p:=av (cc _ _ o) e;exact eb (jb _ _) oM
 ·rw[j]
  have h1:=av (F2 a.den (My (ab b.num) a.den)) c;have p:=av (F2 b.den (My (ab a.num) b.den)) d;exact eb dB oM
theorem LQ.mono {k l:Nat}{a:Rat}(h:LQ k a)(c:k<=l):LQ l a:=⟨eb h.1 c,eb h.2 c⟩
def di (a b:Rat):Int:=ei (a.num*b.den) (b.num*a.den)
theorem ge {a b:Rat}(h1:a.den=1)(c:b.den=1):ei a.num b.num=di a b:=by unfold di;rw[h1,c];simp
theorem gM {a b:Rat}(h:(a.num.sign != b.num.sign)=true):ei a.num b.num=di a b:=by
 have h:a.num.sign≠b.num.sign:=by simpa using h
 have ha:=a.den_pos;have e:=b.den_pos
 unfold di ei
 rcases MX a.num 0 with p|p|p<;>rcases MX b.num 0 with q|q|q
 ·exact absurd (by rw[MY p,MY q]) h
 ·have:a.num*(b.den:Int)<0:=Nl p oM
  rw[q];simp;rw[if_pos p,if_pos this]
 ·have c:a.num*(b.den:Int)<0:=Nl p oM
  have d:0<b.num*(a.den:Int):=Nm q oM;rw[if_pos oM,if_pos oM]
 ·have:b.num*(a.den:Int)<0:=Nl q oM
  rw[p];simp;rw[if_neg oM,if_pos q,if_neg oM,if_pos this]
 ·exact absurd (by rw[p,q]) h
 ·have:0<b.num*(a.den:Int):=Nm q oM
  rw[p];simp;rw[if_pos q,if_pos this]
 ·have c:0<a.num*(b.den:Int):=Nm p oM
  have d:b.num*(a.den:Int)<0:=Nl q oM;rw[if_neg oM,if_pos oM,if_neg oM,if_pos oM]
 ·have:0<a.num*(b.den:Int):=Nm p oM
  rw[q];simp;rw[if_neg oM,if_pos p,if_neg oM,if_pos this]
 ·exact absurd (by rw[MZ p,MZ q]) h
theorem GZ (a b:Rat)(ha:LQ 100000000 a)(p:LQ 100000000 b)(d:a.den=1)(e:b.den=1)(w:World)(h:Hp)(g:G w h):CV 116 #[qv a,qv b] w h (iV (di a b)):=by
 have c:=sS g;have f:=ha;have i:=p;obtain ⟨z,B⟩:=f;obtain ⟨x,u⟩:=i;have C:=dK a.num b.den;have j:=dK b.num a.den;refine go Tryz.func116 [(0,qv a),(1,qv b)] rfl (aD (lA 2 49 (qc a) c (fun l w2 H c=>lA 3 49 (qc b) c (fun y J F c=>lL c ac (ah (cQ (cR 13 [] mixed c ar ?_)))))));exact eO 0 5 [(1,0,5)] (qv a) c (au 1 6 c (fun _ _ c=>dW a aM aM _ _ c.g) (fun I D c=>eV 2 7 qT (eO 3 8 [(0,0,5)] (qv b) c (au 4 9 c (fun _ _ c=>dW b aM aM _ _ c.g) (fun K _ c=>eV 5 10 qT (eV 6 11 qT (eG 7 12 (eG 8 13 (eG 9 14 (eG 10 15 (eG 11 16 (eV 12 17 qT (bS c (fun _ _ c=>tN (cn (aa c [.v (pB l),.o (iv a.num) 1 0 3,.v (pB y),.o (iv b.num) 0 0 3] (aq 22 c (wD a.num b.num cX cX _ _ c.g) (fun _ _ c=>lL c ac (ae c [] (iV (ei a.num b.num)) (congrArg (Value.int .i64) (by first|rfl|exact ge d e|exact gM ‹_›)))))))))))))))))))))
theorem FM (a b:Rat)(ha:LQ 100000000 a)(u:LQ 100000000 b)(d:a.den≠1)(w:World)(h:Hp)(g:G w h):CV 116 #[qv a,qv b] w h (iV (di a b)):=by
 have c:=sS g;have f:=ha;have i:=u;obtain ⟨z,C⟩:=f;obtain ⟨y,x⟩:=i;have D:=dK a.num b.den;have p:=dK b.num a.den;refine go Tryz.func116 [(0,qv a),(1,qv b)] rfl (aD (lA 2 49 (qc a) c (fun j w2 I c=>lA 3 49 (qc b) c (fun l K H c=>lL c ac (ah (cQ (cR 13 [] mixed c ar ?_)))))));refine eO 0 5 [(1,0,5)] (qv a) c (au 1 6 c (fun _ _ c=>fV a aM aM _ _ c.g) (fun J F c=>eV 2 7 qF (eG 3 8 (eG 4 9 (eV 5 10 qF (eV 6 11 qF (eO 7 12 [(1,0,5)] (qv a) c (eO 9 14 [(0,0,5)] (qv b) c (au 8 13 c (fun _ _ c=>jy a aM _ _ c.g) (fun L _ c=>au 10 15 c (fun _ _ c=>jy b aM _ _ c.g) (fun _ _ c=>?_)))))))))));cases e:(((a.num).sign:Int) != ((b.num).sign:Int))
 .
  have B:=aW e;refine eB 11 16 e (eV 12 17 qF (bS c (fun _ _ c=>tN (dC (cK (cQ (cR 11 [] mixed c ar ?_)))))));exact eV 0 23 (pB j) (eO 1 24 [(1,0,3)] (iv a.num) c (eO 2 25 [(0,0,5)] (qv b) c (eV 5 28 (pB l) (eO 6 29 [(0,0,3)] (iv b.num) c (eO 7 30 [(1,0,5)] (qv a) c (au 3 26 c (fun _ _ c=>fL b aM _ _ c.g) (fun _ _ c=>au 4 27 c (fun _ _ c=>iQ a.num b.den cX _ _ c.g) (fun _ _ c=>au 8 31 c (fun _ _ c=>fL a aM _ _ c.g) (fun _ _ c=>au 9 32 c (fun _ _ c=>iQ b.num a.den cX _ _ c.g) (fun _ _ c=>au 10 33 c (fun _ _ c=>wD (a.num*(b.den:Int)) (b.num*(a.den:Int)) cX cX _ _ c.g) (fun _ _ c=>bS c (fun _ _ c=>tV 11 4 (iV (ei (a.num*(b.den:Int)) (b.num*(a.den:Int)))) (tN (kX (c.ret [] (iV (ei (a.num*(b.den:Int)) (b.num*(a.den:Int)))) (congrArg (Value.int .i64) (by first|rfl|exact ge d hwb|exact gM ‹_›)))))))))))))))))
 have B:=aK e;exact eB 11 16 e (eV 12 17 qT (bS c (fun _ _ c=>tN (cn (aa c [.v (pB j),.o (iv a.num) 1 0 3,.v (pB l),.o (iv b.num) 0 0 3] (aq 22 c (wD a.num b.num cX cX _ _ c.g) (fun _ _ c=>lL c ac (ae c [] (iV (ei a.num b.num)) (congrArg (Value.int .i64) (by first|rfl|exact ge d hwb|exact gM ‹_›))))))))))
theorem GJ (a b:Rat)(ha:LQ 100000000 a)(x:LQ 100000000 b)(d:a.den=1)(e:b.den≠1)(w:World)(h:Hp)(g:G w h):CV 116 #[qv a,qv b] w h (iV (di a b)):=by
 have c:=sS g;have i:=ha;have j:=x;obtain ⟨B,D⟩:=i;obtain ⟨z,y⟩:=j;have F:=dK a.num b.den;have u:=dK b.num a.den;refine go Tryz.func116 [(0,qv a),(1,qv b)] rfl (aD (lA 2 49 (qc a) c (fun l w2 J c=>lA 3 49 (qc b) c (fun p L I c=>lL c ac (ah (cQ (cR 13 [] mixed c ar ?_)))))));refine eO 0 5 [(1,0,5)] (qv a) c (au 1 6 c (fun _ _ c=>dW a aM aM _ _ c.g) (fun K H c=>eV 2 7 qT (eO 3 8 [(0,0,5)] (qv b) c (au 4 9 c (fun _ _ c=>fV b aM aM _ _ c.g) (fun M _ c=>eV 5 10 qF (eV 6 11 qF (eO 7 12 [(1,0,5)] (qv a) c (eO 9 14 [(0,0,5)] (qv b) c (au 8 13 c (fun _ _ c=>jy a aM _ _ c.g) (fun _ _ c=>au 10 15 c (fun _ _ c=>jy b aM _ _ c.g) (fun _ _ c=>?_)))))))))));cases f:(((a.num).sign:Int) != ((b.num).sign:Int))
 .
  have C:=aW f;refine eB 11 16 f (eV 12 17 qF (bS c (fun _ _ c=>tN (dC (cK (cQ (cR 11 [] mixed c ar ?_)))))));exact eV 0 23 (pB l) (eO 1 24 [(1,0,3)] (iv a.num) c (eO 2 25 [(0,0,5)] (qv b) c (eV 5 28 (pB p) (eO 6 29 [(0,0,3)] (iv b.num) c (eO 7 30 [(1,0,5)] (qv a) c (au 3 26 c (fun _ _ c=>fL b aM _ _ c.g) (fun _ _ c=>au 4 27 c (fun _ _ c=>iQ a.num b.den cX _ _ c.g) (fun _ _ c=>au 8 31 c (fun _ _ c=>fL a aM _ _ c.g) (fun _ _ c=>au 9 32 c (fun _ _ c=>iQ b.num a.den cX _ _ c.g) (fun _ _ c=>au 10 33 c (fun _ _ c=>wD (a.num*(b.den:Int)) (b.num*(a.den:Int)) cX cX _ _ c.g) (fun _ _ c=>bS c (fun _ _ c=>tV 11 4 (iV (ei (a.num*(b.den:Int)) (b.num*(a.den:Int)))) (tN (kX (c.ret [] (iV (ei (a.num*(b.den:Int)) (b.num*(a.den:Int)))) (congrArg (Value.int .i64) (by first|rfl|exact ge d e|exact gM ‹_›)))))))))))))))))
 have C:=aK f;exact eB 11 16 f (eV 12 17 qT (bS c (fun _ _ c=>tN (cn (aa c [.v (pB l),.o (iv a.num) 1 0 3,.v (pB p),.o (iv b.num) 0 0 3] (aq 22 c (wD a.num b.num cX cX _ _ c.g) (fun _ _ c=>lL c ac (ae c [] (iV (ei a.num b.num)) (congrArg (Value.int .i64) (by first|rfl|exact ge d e|exact gM ‹_›))))))))))
theorem Ki (a b:Rat)(ha:LQ 100000000 a)(c:LQ 100000000 b)(w:World)(h:Hp)(g:G w h):CV 116 #[qv a,qv b] w h (iV (di a b)):=by
 by_cases h1:a.den=1
 ·by_cases h2:b.den=1
  ·exact GZ a b ha c h1 h2 w h g
  ·exact GJ a b ha c h1 h2 w h g
 ·exact FM a b ha c h1 w h g
theorem iY {a b:Rat}:di a b<0↔a<b:=by
 unfold di ei
 rw[Rat.lt_iff]
 split
 ·simp;assumption
 ·split<;>simp<;>omega
theorem i9 {a b:Rat}:di a b>0↔b<a:=by
 unfold di ei
 rw[Rat.lt_iff]
 split
 ·simp;omega
 ·split<;>simp<;>omega
def mkR (n d:Int):Rat:=mkRat (if d<0 then -n else n) (ab d)
theorem F9 (n d:Int)(l:d<0)(c:(wds (ab n)).length<=1000000000)(D:(wds (ab d)).length<=1000000000)(w:World)(h:Hp)(g:G w h)(x:Tab h):CV 44 #[iv n,iv d] w h (.tuple #[qv (mkR n d),.bool true]):=by
 have a:=((sS g).add (K:=fun B=>Tab B) x);have u:=MY l;have C:0<ab d:=by unfold ab;omega
 have y:(wds (ab (-n))).length<=1000000000:=by unfold ab;rw[Nk];exact c
 refine go Tryz.func44 [(0,iv n),(1,iv d)] rfl (aD (lA 2 47 (ic n) a (fun H w2 I a=>lA 3 47 (ic d) a (fun L O F a=>lA 4 49 a6 a (fun M Q J a=>lL a ac (ah (aa a [.o (iv d) 1 0 3] (aq 7 a (mi d cX _ _ a.g) (fun _ _ a=>?_)))))))));have j:(((d).sign:Int) == (0:Int))=false:=fh oM;have e:=aj j;refine lB 8 j (ag (cK (cQ (aa a [.o (iv d) 1 0 3] (aq 11 a (mi d cX _ _ a.g) (fun _ _ a=>?_))))));have ⟨z,i⟩:=dT (p:=((d).sign:Int)<(0:Int)) oM;refine lB 12 z (ak (kQ (lL a [.o (iv n) 2 0 3] (aq 14 a (In n cX _ _ a.g) (fun _ _ a=>lP 2 0 (ic (-n)) a (fun _ a=>ah (cR 4 [] mixed a ar ?_)))))));exact eO 0 15 [(2,0,3)] (iv (-n)) a (eO 1 16 [(1,0,3)] (iv d) a (au 2 17 a (fun _ _ a=>wG d _ _ a.g) (fun _ _ a=>au 3 18 a (fun _ _ a=>ue (-n) (ab d) cX cX cX _ _ a.g a.f.1) (fun _ _ a=>bS a (fun _ _ a=>tP 4 0 0 (qc (mkRat (-n) (ab d))) a (fun _ a=>tV 5 5 qT (tN (kX (a.ret [(0,0,5)] (.tuple #[qv (mkRat (-n) (ab d)),qT]) (by unfold mkR;rw[if_pos l]))))))))))
theorem HB (n d:Int)(B:0<d)(j:(wds (ab n)).length<=1000000000)(C:(wds (ab d)).length<=1000000000)(w:World)(h:Hp)(g:G w h)(u:Tab h):CV 44 #[iv n,iv d] w h (.tuple #[qv (mkR n d),.bool true]):=by
 have a:=((sS g).add (K:=fun y=>Tab y) u);have l:=MZ B;have z:0<ab d:=by unfold ab;omega
 refine go Tryz.func44 [(0,iv n),(1,iv d)] rfl (aD (lA 2 47 (ic n) a (fun F w2 H a=>lA 3 47 (ic d) a (fun J M D a=>lA 4 49 a6 a (fun L O I a=>lL a ac (ah (aa a [.o (iv d) 1 0 3] (aq 7 a (mi d cX _ _ a.g) (fun _ _ a=>?_)))))))));have i:(((d).sign:Int) == (0:Int))=false:=fh oM;have c:=aj i;refine lB 8 i (ag (cK (cQ (aa a [.o (iv d) 1 0 3] (aq 11 a (mi d cX _ _ a.g) (fun _ _ a=>?_))))));have ⟨x,e⟩:=dF (p:=((d).sign:Int)<(0:Int)) oM;refine lB 12 x (ag (cK (cQ (cR 4 [] mixed a ar ?_))));exact eO 0 15 [(2,0,3)] (iv n) a (eO 1 16 [(1,0,3)] (iv d) a (au 2 17 a (fun _ _ a=>wG d _ _ a.g) (fun _ _ a=>au 3 18 a (fun _ _ a=>ue n (ab d) cX cX cX _ _ a.g a.f.1) (fun _ _ a=>bS a (fun _ _ a=>tP 4 0 0 (qc (mkRat n (ab d))) a (fun _ a=>tV 5 5 qT (tN (kX (a.ret [(0,0,5)] (.tuple #[qv (mkRat n (ab d)),qT]) (by unfold mkR;rw[if_neg oM]))))))))))
theorem JM (n d:Int)(f:d≠0)(a:(wds (ab n)).length<=1000000000)(c:(wds (ab d)).length<=1000000000)(w:World)(h:Hp)(g:G w h)(e:Tab h):CV 44 #[iv n,iv d] w h (.tuple #[qv (mkR n d),.bool true]):=by
 rcases MX d 0 with h1|h1|h1
 ·exact F9 n d h1 a c w h g e
 ·exact absurd h1 f
 ·exact HB n d h1 a c w h g e
theorem Ir (a b:Rat)(ha:LQ 100000000 a)(C:LQ 100000000 b)(hz:b.num≠0)(w:World)(h:Hp)(g:G w h)(D:Tab h):CV 294 #[qv a,qv b] w h (.tuple #[qv (a/b),.bool true]):=by
 have c:=((sS g).add (K:=fun I=>Tab I) D);have y:=ha;have z:=C;obtain ⟨H,J⟩:=y;obtain ⟨x,j⟩:=z;have l:((b.num).sign == (0:Int))=false:=by simpa using hz
 obtain ⟨i,d⟩:=uB b hz;have u:(wds (ab (bA (decide ((b.num).sign<(0:Int))) b.den))).length<=100000000:=by rw[fu];exact j
 have p:LQ 100000000 b⁻¹:=⟨by rw[i];exact u,by rw[d];exact x⟩;have B:LQ 1000000000 b⁻¹:=p.mono oM;refine go Tryz.func294 [(0,qv a),(1,qv b)] rfl (aD (lA 2 49 (qc a) c (fun M w2 O c=>lA 3 49 (qc b) c (fun F U L c=>lA 4 49 a6 c (fun S V Q c=>lL c ac (ah (aa c [.o (qv b) 1 0 5] (aq 7 c (jy b aM _ _ c.g) (fun _ _ c=>lV 8 qF ?_ (hr:=rb (e:=((b.num).sign == (0:Int))) kR l))))))))));refine ag (cK (cQ (cR 12 [] mixed c ar ?_)));exact eO 0 10 [(2,0,5)] (qv a) c (eO 1 11 [(1,0,5)] (qv b) c (eO 4 14 [(1,0,5)] (qv b) c (eV 7 17 (pB F) (eO 8 18 [(1,0,3)] (iv b.num) c (au 2 12 c (fun _ _ c=>jy b aM _ _ c.g) (fun _ _ c=>eV 3 13 (.bool (decide (((b.num).sign:Int)<(0:Int)))) (au 5 15 c (fun _ _ c=>fL b aM _ _ c.g) (fun _ _ c=>au 6 16 c (fun _ _ c=>gf (decide (((b.num).sign:Int)<(0:Int))) b.den cX _ _ c.g) (fun _ _ c=>au 9 19 c (fun _ _ c=>wG b.num _ _ c.g) (fun _ _ c=>au 10 20 c (fun _ _ c=>kp b⁻¹ (bA (decide (((b.num).sign:Int)<(0:Int))) b.den) (ab b.num) i d.symm aM _ _ c.g) (fun _ _ c=>au 11 21 c (fun _ _ c=>qx a (b⁻¹) aM aM _ _ c.g c.f.1) (fun _ _ c=>bS c (fun _ _ c=>tP 12 0 0 (qc (a*(b⁻¹))) c (fun _ c=>tV 13 5 qT (tN (kX (c.ret [(0,0,5)] (.tuple #[qv (a*(b⁻¹)),qT]) (by rw[Rat.div_def]))))))))))))))))))
theorem g5 (x:Int)(A:Z9)(c:Nat)(F:(lim (ab x)).length<=c)(u:(lim (ab x)).length<=2000000000)(y:Int)(D:Z9)(d:Nat)(K:(lim (ab y)).length<=d)(z:(lim (ab y)).length<=2000000000)(w:World)(h:Hp)(g:G w h)(B:S3 A (lim (ab x)) h)(o:S3 D (lim (ab y)) h):CR 131 #[.agg #[.bool (af x),.slice A ((lim (ab x)).length) c],.agg #[.bool (af y),.slice D ((lim (ab y)).length) d]] w h (fun v h1=>RI h1 v (x*y)):=by
 have a:=(((sS g).aS B).aS o);refine go Tryz.func131 [(0,.agg #[.bool (af x),qS A ((lim (ab x)).length) c]),(1,.agg #[.bool (af y),qS D ((lim (ab y)).length) d])] rfl (aD (lA 2 26 ([.bool (af x),qS A ((lim (ab x)).length) c]) a (fun e w2 O a=>lA 3 26 ([.bool (af y),qS D ((lim (ab y)).length) d]) a (fun i U M a=>lA 4 26 ([qF,sZ]) a (fun S V Q a=>ah (cR 11 [] mixed a ar ?_))))));refine eV 0 5 (pB e) (eO 1 6 [(2,0,1)] (.bool (af x)) a (eV 2 7 (pB i) (eO 3 8 [(1,0,1)] (.bool (af y)) a (eV 4 9 (.bool ((af x) != (af y))) (eV 5 10 (qP e 1) (eO 6 11 [(2,1,1)] (qS A ((lim (ab x)).length) c) a (eV 7 12 (qP i 1) (eO 8 13 [(1,1,1)] (qS D ((lim (ab y)).length) d) a (eC 9 14 a (fun _ _ a=>oJ (ab x) A c F (ab y) D d K oM oM _ _ a.g a.f.2.1 a.f.1) ?_)))))))));rintro _ _ _ _ _ a ⟨J,p,rfl,H,L⟩;replace a:=a.aS L;refine eC 10 15 a (fun _ _ a=>rI ((af x) != (af y)) ((ab x)*(ab y)) J p H _ _ a.g a.f.1) ?_;rintro _ _ _ _ _ a ⟨j,l,rfl,I,C⟩;replace a:=a.aS C;exact bS a (fun _ _ a=>tP 11 0 0 ([.bool (af (bA ((af x) != (af y)) ((ab x)*(ab y)))),qS j ((lim (ab (bA ((af x) != (af y)) ((ab x)*(ab y))))).length) l]) a (fun _ a=>tN (kX (a.ret [(0,0,2)] (.agg #[.bool (af (bA ((af x) != (af y)) ((ab x)*(ab y)))),qS j ((lim (ab (bA ((af x) != (af y)) ((ab x)*(ab y))))).length) l]) (by rw[<-ne x y];exact ⟨_,_,rfl,I,a.f.1⟩)))))
theorem xI (x:Int)(A:Z9)(c:Nat)(u:(lim (ab x)).length<=c)(l:(lim (ab x)).length<=2000000000)(z:af x=false)(w:World)(h:Hp)(g:G w h)(p:S3 A (lim (ab x)) h):CR 189 #[.agg #[.bool false,.slice A ((lim (ab x)).length) c]] w h (fun v h1=>RI h1 v (-x)):=by
 have a:=((sS g).aS p);refine go Tryz.func189 [(0,.agg #[qF,qS A ((lim (ab x)).length) c])] rfl (aD (lA 1 26 ([qF,qS A ((lim (ab x)).length) c]) a (fun e w2 C a=>lA 2 26 ([qF,sZ]) a (fun D F B a=>aG (lL a [.v (pB e),.o qF 1 0 1,.v qT,.v (qP e 1),.o (qS A ((lim (ab x)).length) c) 1 1 1] (lC 8 a (rI true (ab x) A c u _ _ a.g a.f.1) ?_))))));rintro _ _ _ a ⟨i,j,rfl,d,y⟩;replace a:=a.aS y;exact lP 0 0 ([.bool (af (bA true (ab x))),qS i ((lim (ab (bA true (ab x)))).length) j]) a (fun _ a=>ae a [(0,0,2)] (.agg #[.bool (af (bA true (ab x))),qS i ((lim (ab (bA true (ab x)))).length) j]) (by rw[<-lh x,z];exact ⟨_,_,rfl,d,a.f.1⟩))
theorem xo (x:Int)(A:Z9)(c:Nat)(u:(lim (ab x)).length<=c)(l:(lim (ab x)).length<=2000000000)(z:af x=true)(w:World)(h:Hp)(g:G w h)(p:S3 A (lim (ab x)) h):CR 189 #[.agg #[.bool true,.slice A ((lim (ab x)).length) c]] w h (fun v h1=>RI h1 v (-x)):=by
 have a:=((sS g).aS p);refine go Tryz.func189 [(0,.agg #[qT,qS A ((lim (ab x)).length) c])] rfl (aD (lA 1 26 ([qT,qS A ((lim (ab x)).length) c]) a (fun e w2 C a=>lA 2 26 ([qF,sZ]) a (fun D F B a=>aG (lL a [.v (pB e),.o qT 1 0 1,.v qF,.v (qP e 1),.o (qS A ((lim (ab x)).length) c) 1 1 1] (lC 8 a (rI false (ab x) A c u _ _ a.g a.f.1) ?_))))));rintro _ _ _ a ⟨i,j,rfl,d,y⟩;replace a:=a.aS y;exact lP 0 0 ([.bool (af (bA false (ab x))),qS i ((lim (ab (bA false (ab x)))).length) j]) a (fun _ a=>ae a [(0,0,2)] (.agg #[.bool (af (bA false (ab x))),qS i ((lim (ab (bA false (ab x)))).length) j]) (by rw[<-lh x,z];exact ⟨_,_,rfl,d,a.f.1⟩))
theorem uZ (x:Int)(A:Z9)(c:Nat)(e:(lim (ab x)).length<=c)(a:(lim (ab x)).length<=2000000000)(w:World)(h:Hp)(g:G w h)(d:S3 A (lim (ab x)) h):CR 189 #[.agg #[.bool (af x),.slice A (lim (ab x)).length c]] w h (fun v h1=>RI h1 v (-x)):=by
 rcases hx:af x with _|_
 ·exact xI x A c e a hx w h g d
 ·exact xo x A c e a hx w h g d
theorem vt (x:Int)(A:Z9)(c:Nat)(J:(lim (ab x)).length<=c)(B:(lim (ab x)).length<=2000000000)(y:Int)(D:Z9)(d:Nat)(S:(lim (ab y)).length<=d)(C:(lim (ab y)).length<=2000000000)(O:af x=false)(p:af y=false)(w:World)(h:Hp)(g:G w h)(F:S3 A (lim (ab x)) h)(u:S3 D (lim (ab y)) h):CR 155 #[.agg #[.bool false,.slice A ((lim (ab x)).length) c],.agg #[.bool false,.slice D ((lim (ab y)).length) d]] w h (fun v h1=>RI h1 v (x+y)):=by
 have a:=(((sS g).aS F).aS u);have I:=bc O;have K:=bc p;refine go Tryz.func155 [(0,.agg #[qF,qS A ((lim (ab x)).length) c]),(1,.agg #[qF,qS D ((lim (ab y)).length) d])] rfl (aD (lA 2 26 ([qF,qS A ((lim (ab x)).length) c]) a (fun e w2 W a=>lA 3 26 ([qF,qS D ((lim (ab y)).length) d]) a (fun i Z V a=>lA 4 26 ([qF,sZ]) a (fun Y w8 X a=>ah (aa a [.v (pB e),.o qF 2 0 1,.v (pB i),.o qF 1 0 1,.v qT] (ak (cQ (cR 8 [] mixed a ar ?_)))))))));refine eV 0 10 (pB e) (eO 1 11 [(2,0,1)] qF a (eV 2 12 (qP e 1) (eO 3 13 [(2,1,1)] (qS A ((lim (ab x)).length) c) a (eV 4 14 (qP i 1) (eO 5 15 [(1,1,1)] (qS D ((lim (ab y)).length) d) a (eC 6 16 a (fun _ _ a=>tR (ab x) A c J (ab y) D d S oM oM _ _ a.g a.f.2.1 a.f.1) ?_))))));rintro _ _ _ _ _ a ⟨Q,z,rfl,L,U⟩;replace a:=a.aS U;refine eC 7 17 a (fun _ _ a=>rI false ((ab x)+(ab y)) Q z L _ _ a.g a.f.1) ?_;rintro _ _ _ _ _ a ⟨j,l,rfl,M,H⟩;replace a:=a.aS H;exact bS a (fun _ _ a=>tP 8 0 0 ([.bool (af (bA false ((ab x)+(ab y)))),qS j ((lim (ab (bA false ((ab x)+(ab y))))).length) l]) a (fun _ a=>tN (kX (a.ret [(0,0,2)] (.agg #[.bool (af (bA false ((ab x)+(ab y)))),qS j ((lim (ab (bA false ((ab x)+(ab y))))).length) l]) (by rw[show x+y=(bA false ((ab x)+(ab y))) by unfold bA ab at *;simp;omega];exact ⟨_,_,rfl,M,a.f.1⟩)))))
theorem vT (x:Int)(A:Z9)(c:Nat)(l:(lim (ab x)).length<=c)(K:(lim (ab x)).length<=2000000000)(y:Int)(D:Z9)(d:Nat)(p:(lim (ab y)).length<=d)(L:(lim (ab y)).length<=2000000000)(hx:af x=false)(F:af y=true)(w:World)(h:Hp)(g:G w h)(Q:S3 A (lim (ab x)) h)(I:S3 D (lim (ab y)) h):CR 155 #[.agg #[.bool false,.slice A ((lim (ab x)).length) c],.agg #[.bool true,.slice D ((lim (ab y)).length) d]] w h (fun v h1=>RI h1 v (x+y)):=by
 have a:=(((sS g).aS Q).aS I);have V:=bc hx;have Y:=bp F;refine go Tryz.func155 [(0,.agg #[qF,qS A ((lim (ab x)).length) c]),(1,.agg #[qT,qS D ((lim (ab y)).length) d])] rfl (aD (lA 2 26 ([qF,qS A ((lim (ab x)).length) c]) a (fun e w2 h3 a=>lA 3 26 ([qT,qS D ((lim (ab y)).length) d]) a (fun i w5 h6 a=>lA 4 26 ([qF,sZ]) a (fun b7 w8 h9 a=>ah (aa a [.v (pB e),.o qF 2 0 1,.v (pB i),.o qT 1 0 1,.v qF] (ag (cK (cQ (aa a [.v (qP e 1),.o (qS A ((lim (ab x)).length) c) 2 1 1,.v (qP i 1),.o (qS D ((lim (ab y)).length) d) 1 1 1] (aq 22 a (gZ (ab x) A c l (ab y) D d p oM oM _ _ a.g a.f.2.1 a.f.1) (fun _ _ a=>?_))))))))))));have W:=ie (ab x) (ab y);cases j:(decide ((0:Int)<=(bV (ab x) (ab y):Int)))
 .
  have zb:=oF j;refine lB 23 j (ag (cK (cQ (cR 8 [] mixed a ar ?_))));refine eV 0 32 (pB i) (eO 1 33 [(1,0,1)] qT a (eV 2 34 (qP i 1) (eO 3 35 [(1,1,1)] (qS D ((lim (ab y)).length) d) a (eV 4 36 (qP e 1) (eO 5 37 [(2,1,1)] (qS A ((lim (ab x)).length) c) a (eC 6 38 a (fun _ _ a=>kS (ab y) D d p (ab x) A c l oM oM oM _ _ a.g a.f.1 a.f.2.1) ?_))))));rintro _ _ _ _ _ a ⟨H,M,rfl,zg,J⟩;replace a:=a.aS J;refine eC 7 39 a (fun _ _ a=>rI true ((ab y)-(ab x)) H M zg _ _ a.g a.f.1) ?_;rintro _ _ _ _ _ a ⟨z,C,rfl,zj,S⟩;replace a:=a.aS S;exact bS a (fun _ _ a=>tP 8 0 0 ([.bool (af (bA true ((ab y)-(ab x)))),qS z ((lim (ab (bA true ((ab y)-(ab x))))).length) C]) a (fun _ a=>tN (kX (a.ret [(0,0,2)] (.agg #[.bool (af (bA true ((ab y)-(ab x)))),qS z ((lim (ab (bA true ((ab y)-(ab x))))).length) C]) (by rw[show x+y=(bA true ((ab y)-(ab x))) by unfold bA ab at *;simp;omega];exact ⟨_,_,rfl,zj,a.f.1⟩)))))
 have zb:=oT j;refine lB 23 j (ak (cQ (cR 8 [] mixed a ar ?_)));refine eV 0 24 (pB e) (eO 1 25 [(2,0,1)] qF a (eV 2 26 (qP e 1) (eO 3 27 [(2,1,1)] (qS A ((lim (ab x)).length) c) a (eV 4 28 (qP i 1) (eO 5 29 [(1,1,1)] (qS D ((lim (ab y)).length) d) a (eC 6 30 a (fun _ _ a=>kS (ab x) A c l (ab y) D d p oM oM oM _ _ a.g a.f.2.1 a.f.1) ?_))))));rintro _ _ _ _ _ a ⟨zr,Z,rfl,X,U⟩;replace a:=a.aS U;refine eC 7 31 a (fun _ _ a=>rI false ((ab x)-(ab y)) zr Z X _ _ a.g a.f.1) ?_;rintro _ _ _ _ _ a ⟨B,u,rfl,O,zo⟩;replace a:=a.aS zo;exact bS a (fun _ _ a=>tP 8 0 0 ([.bool (af (bA false ((ab x)-(ab y)))),qS B ((lim (ab (bA false ((ab x)-(ab y))))).length) u]) a (fun _ a=>tN (kX (a.ret [(0,0,2)] (.agg #[.bool (af (bA false ((ab x)-(ab y)))),qS B ((lim (ab (bA false ((ab x)-(ab y))))).length) u]) (by rw[show x+y=(bA false ((ab x)-(ab y))) by unfold bA ab at *;simp;omega];exact ⟨_,_,rfl,O,a.f.1⟩)))))
theorem vr (x:Int)(A:Z9)(c:Nat)(l:(lim (ab x)).length<=c)(K:(lim (ab x)).length<=2000000000)(y:Int)(D:Z9)(d:Nat)(p:(lim (ab y)).length<=d)(L:(lim (ab y)).length<=2000000000)(hx:af x=true)(F:af y=false)(w:World)(h:Hp)(g:G w h)(Q:S3 A (lim (ab x)) h)(I:S3 D (lim (ab y)) h):CR 155 #[.agg #[.bool true,.slice A ((lim (ab x)).length) c],.agg #[.bool false,.slice D ((lim (ab y)).length) d]] w h (fun v h1=>RI h1 v (x+y)):=by
 have a:=(((sS g).aS Q).aS I);have V:=bp hx;have Y:=bc F;refine go Tryz.func155 [(0,.agg #[qT,qS A ((lim (ab x)).length) c]),(1,.agg #[qF,qS D ((lim (ab y)).length) d])] rfl (aD (lA 2 26 ([qT,qS A ((lim (ab x)).length) c]) a (fun e w2 h3 a=>lA 3 26 ([qF,qS D ((lim (ab y)).length) d]) a (fun i w5 h6 a=>lA 4 26 ([qF,sZ]) a (fun b7 w8 h9 a=>ah (aa a [.v (pB e),.o qT 2 0 1,.v (pB i),.o qF 1 0 1,.v qF] (ag (cK (cQ (aa a [.v (qP e 1),.o (qS A ((lim (ab x)).length) c) 2 1 1,.v (qP i 1),.o (qS D ((lim (ab y)).length) d) 1 1 1] (aq 22 a (gZ (ab x) A c l (ab y) D d p oM oM _ _ a.g a.f.2.1 a.f.1) (fun _ _ a=>?_))))))))))));have W:=ie (ab x) (ab y);cases j:(decide ((0:Int)<=(bV (ab x) (ab y):Int)))
 .
  have zb:=oF j;refine lB 23 j (ag (cK (cQ (cR 8 [] mixed a ar ?_))));refine eV 0 32 (pB i) (eO 1 33 [(1,0,1)] qF a (eV 2 34 (qP i 1) (eO 3 35 [(1,1,1)] (qS D ((lim (ab y)).length) d) a (eV 4 36 (qP e 1) (eO 5 37 [(2,1,1)] (qS A ((lim (ab x)).length) c) a (eC 6 38 a (fun _ _ a=>kS (ab y) D d p (ab x) A c l oM oM oM _ _ a.g a.f.1 a.f.2.1) ?_))))));rintro _ _ _ _ _ a ⟨H,M,rfl,zg,J⟩;replace a:=a.aS J;refine eC 7 39 a (fun _ _ a=>rI false ((ab y)-(ab x)) H M zg _ _ a.g a.f.1) ?_;rintro _ _ _ _ _ a ⟨z,C,rfl,zj,S⟩;replace a:=a.aS S;exact bS a (fun _ _ a=>tP 8 0 0 ([.bool (af (bA false ((ab y)-(ab x)))),qS z ((lim (ab (bA false ((ab y)-(ab x))))).length) C]) a (fun _ a=>tN (kX (a.ret [(0,0,2)] (.agg #[.bool (af (bA false ((ab y)-(ab x)))),qS z ((lim (ab (bA false ((ab y)-(ab x))))).length) C]) (by rw[show x+y=(bA false ((ab y)-(ab x))) by unfold bA ab at *;simp;omega];exact ⟨_,_,rfl,zj,a.f.1⟩)))))
 have zb:=oT j;refine lB 23 j (ak (cQ (cR 8 [] mixed a ar ?_)));refine eV 0 24 (pB e) (eO 1 25 [(2,0,1)] qT a (eV 2 26 (qP e 1) (eO 3 27 [(2,1,1)] (qS A ((lim (ab x)).length) c) a (eV 4 28 (qP i 1) (eO 5 29 [(1,1,1)] (qS D ((lim (ab y)).length) d) a (eC 6 30 a (fun _ _ a=>kS (ab x) A c l (ab y) D d p oM oM oM _ _ a.g a.f.2.1 a.f.1) ?_))))));rintro _ _ _ _ _ a ⟨zr,Z,rfl,X,U⟩;replace a:=a.aS U;refine eC 7 31 a (fun _ _ a=>rI true ((ab x)-(ab y)) zr Z X _ _ a.g a.f.1) ?_;rintro _ _ _ _ _ a ⟨B,u,rfl,O,zo⟩;replace a:=a.aS zo;exact bS a (fun _ _ a=>tP 8 0 0 ([.bool (af (bA true ((ab x)-(ab y)))),qS B ((lim (ab (bA true ((ab x)-(ab y))))).length) u]) a (fun _ a=>tN (kX (a.ret [(0,0,2)] (.agg #[.bool (af (bA true ((ab x)-(ab y)))),qS B ((lim (ab (bA true ((ab x)-(ab y))))).length) u]) (by rw[show x+y=(bA true ((ab x)-(ab y))) by unfold bA ab at *;simp;omega];exact ⟨_,_,rfl,O,a.f.1⟩)))))
theorem wk (x:Int)(A:Z9)(c:Nat)(J:(lim (ab x)).length<=c)(B:(lim (ab x)).length<=2000000000)(y:Int)(D:Z9)(d:Nat)(S:(lim (ab y)).length<=d)(C:(lim (ab y)).length<=2000000000)(O:af x=true)(p:af y=true)(w:World)(h:Hp)(g:G w h)(F:S3 A (lim (ab x)) h)(u:S3 D (lim (ab y)) h):CR 155 #[.agg #[.bool true,.slice A ((lim (ab x)).length) c],.agg #[.bool true,.slice D ((lim (ab y)).length) d]] w h (fun v h1=>RI h1 v (x+y)):=by
 have a:=(((sS g).aS F).aS u);have I:=bp O;have K:=bp p;refine go Tryz.func155 [(0,.agg #[qT,qS A ((lim (ab x)).length) c]),(1,.agg #[qT,qS D ((lim (ab y)).length) d])] rfl (aD (lA 2 26 ([qT,qS A ((lim (ab x)).length) c]) a (fun e w2 W a=>lA 3 26 ([qT,qS D ((lim (ab y)).length) d]) a (fun i Z V a=>lA 4 26 ([qF,sZ]) a (fun Y w8 X a=>ah (aa a [.v (pB e),.o qT 2 0 1,.v (pB i),.o qT 1 0 1,.v qT] (ak (cQ (cR 8 [] mixed a ar ?_)))))))));refine eV 0 10 (pB e) (eO 1 11 [(2,0,1)] qT a (eV 2 12 (qP e 1) (eO 3 13 [(2,1,1)] (qS A ((lim (ab x)).length) c) a (eV 4 14 (qP i 1) (eO 5 15 [(1,1,1)] (qS D ((lim (ab y)).length) d) a (eC 6 16 a (fun _ _ a=>tR (ab x) A c J (ab y) D d S oM oM _ _ a.g a.f.2.1 a.f.1) ?_))))));rintro _ _ _ _ _ a ⟨Q,z,rfl,L,U⟩;replace a:=a.aS U;refine eC 7 17 a (fun _ _ a=>rI true ((ab x)+(ab y)) Q z L _ _ a.g a.f.1) ?_;rintro _ _ _ _ _ a ⟨j,l,rfl,M,H⟩;replace a:=a.aS H;exact bS a (fun _ _ a=>tP 8 0 0 ([.bool (af (bA true ((ab x)+(ab y)))),qS j ((lim (ab (bA true ((ab x)+(ab y))))).length) l]) a (fun _ a=>tN (kX (a.ret [(0,0,2)] (.agg #[.bool (af (bA true ((ab x)+(ab y)))),qS j ((lim (ab (bA true ((ab x)+(ab y))))).length) l]) (by rw[show x+y=(bA true ((ab x)+(ab y))) by unfold bA ab at *;simp;omega];exact ⟨_,_,rfl,M,a.f.1⟩)))))
theorem tY (x:Int)(A:Z9)(c:Nat)(j:(lim (ab x)).length<=c)(a:(lim (ab x)).length<=2000000000)(y:Int)(D:Z9)(d:Nat)(l:(lim (ab y)).length<=d)(e:(lim (ab y)).length<=2000000000)(w:World)(h:Hp)(g:G w h)(f:S3 A (lim (ab x)) h)(i:S3 D (lim (ab y)) h):CR 155 #[.agg #[.bool (af x),.slice A (lim (ab x)).length c],.agg #[.bool (af y),.slice D (lim (ab y)).length d]] w h (fun v h1=>RI h1 v (x+y)):=by
 rcases hx:af x with _|_<;>rcases hy:af y with _|_
 ·exact vt x A c j a y D d l e hx hy w h g f i
 ·exact vT x A c j a y D d l e hx hy w h g f i
 ·exact vr x A c j a y D d l e hx hy w h g f i
 ·exact wk x A c j a y D d l e hx hy w h g f i
theorem vn (x:Int)(A:Z9)(c:Nat)(y:(lim (ab x)).length<=c)(f:(lim (ab x)).length<=2000000000)(hz:x=0)(w:World)(h:Hp)(g:G w h)(l:S3 A (lim (ab x)) h):CV 127 #[.agg #[.bool (af x),.slice A ((lim (ab x)).length) c]] w h (iV x.sign):=by
 have a:=((sS g).aS l);have p:=@bR (ab x);have j:ab x=x.natAbs:=rfl;refine go Tryz.func127 [(0,.agg #[.bool (af x),qS A ((lim (ab x)).length) c])] rfl (aD (lA 1 26 ([.bool (af x),qS A ((lim (ab x)).length) c]) a (fun i w2 u a=>lL a ac (ah (kZ (aa a [.v (qP i 1),.o (qS A ((lim (ab x)).length) c) 0 1 1,.v (nV ((lim (ab x)).length))] ?_))))));have d:((((lim (ab x)).length:Nat):Int) == (0:Int))=true:=pE oM;have e:=eq_of_beq d;exact lB 7 d (lL a ac (ak (aa a ac (ae a [] (iV 0) (by subst hz;rfl)))))
theorem vq (x:Int)(A:Z9)(c:Nat)(y:(lim (ab x)).length<=c)(i:(lim (ab x)).length<=2000000000)(hz:x<0)(w:World)(h:Hp)(g:G w h)(l:S3 A (lim (ab x)) h):CV 127 #[.agg #[.bool true,.slice A ((lim (ab x)).length) c]] w h (iV x.sign):=by
 have a:=((sS g).aS l);have p:=@bR (ab x);have j:ab x=x.natAbs:=rfl;refine go Tryz.func127 [(0,.agg #[qT,qS A ((lim (ab x)).length) c])] rfl (aD (lA 1 26 ([qT,qS A ((lim (ab x)).length) c]) a (fun e w2 u a=>lL a ac (ah (kZ (aa a [.v (qP e 1),.o (qS A ((lim (ab x)).length) c) 0 1 1,.v (nV ((lim (ab x)).length))] ?_))))));have d:((((lim (ab x)).length:Nat):Int) == (0:Int))=false:=fh oM;have f:=aj d;exact lB 7 d (lL a ac (ag (aa a [.v (pB e),.o qT 0 0 1,.c] (ak (aa a ac (ae a [] (iV (-1)) (by rw[MY hz])))))))
theorem vS (x:Int)(A:Z9)(c:Nat)(y:(lim (ab x)).length<=c)(i:(lim (ab x)).length<=2000000000)(hz:0<x)(w:World)(h:Hp)(g:G w h)(l:S3 A (lim (ab x)) h):CV 127 #[.agg #[.bool false,.slice A ((lim (ab x)).length) c]] w h (iV x.sign):=by
 have a:=((sS g).aS l);have p:=@bR (ab x);have j:ab x=x.natAbs:=rfl;refine go Tryz.func127 [(0,.agg #[qF,qS A ((lim (ab x)).length) c])] rfl (aD (lA 1 26 ([qF,qS A ((lim (ab x)).length) c]) a (fun e w2 u a=>lL a ac (ah (kZ (aa a [.v (qP e 1),.o (qS A ((lim (ab x)).length) c) 0 1 1,.v (nV ((lim (ab x)).length))] ?_))))));have d:((((lim (ab x)).length:Nat):Int) == (0:Int))=false:=fh oM;have f:=aj d;exact lB 7 d (lL a ac (ag (aa a [.v (pB e),.o qF 0 0 1,.c] (ag (cK (aa a ac (ae a [] (iV 1) (by rw[MZ hz]))))))))
theorem pY (x:Int)(A:Z9)(c:Nat)(e:(lim (ab x)).length<=c)(a:(lim (ab x)).length<=2000000000)(w:World)(h:Hp)(g:G w h)(d:S3 A (lim (ab x)) h):CV 127 #[.agg #[.bool (af x),.slice A (lim (ab x)).length c]] w h (iV x.sign):=by
 rcases MX x 0 with hz|hz|hz
 ·have:=vq x A c e a hz w h g d
  rwa [<-show af x=true by simp[af,hz]] at this
 ·exact vn x A c e a hz w h g d
 ·have:=vS x A c e a hz w h g d
  rwa [<-show af x=false by simp[af];omega] at this
theorem EQ (x:Int)(A:Z9)(c:Nat)(C:(lim (ab x)).length<=c)(p:(lim (ab x)).length<=2000000000)(y:Int)(D:Z9)(d:Nat)(J:(lim (ab y)).length<=d)(u:(lim (ab y)).length<=2000000000)(w:World)(h:Hp)(g:G w h)(z:S3 A (lim (ab x)) h)(l:S3 D (lim (ab y)) h):CR 158 #[.agg #[.bool (af x),.slice A ((lim (ab x)).length) c],.agg #[.bool (af y),.slice D ((lim (ab y)).length) d]] w h (fun v h1=>RI h1 v (x-y)):=by
 have a:=(((sS g).aS z).aS l);have j:(lim (ab (-y))).length=(lim (ab y)).length:=by unfold ab;rw[Nk]
 refine go Tryz.func158 [(0,.agg #[.bool (af x),qS A ((lim (ab x)).length) c]),(1,.agg #[.bool (af y),qS D ((lim (ab y)).length) d])] rfl (aD (lA 2 26 ([.bool (af x),qS A ((lim (ab x)).length) c]) a (fun M w2 O a=>lA 3 26 ([.bool (af y),qS D ((lim (ab y)).length) d]) a (fun S V L a=>lA 4 26 ([qF,sZ]) a (fun U W Q a=>ah (cR 4 [] mixed a ar ?_))))));refine eO 0 5 [(2,0,2)] (.agg #[.bool (af x),qS A ((lim (ab x)).length) c]) a (eO 1 6 [(1,0,2)] (.agg #[.bool (af y),qS D ((lim (ab y)).length) d]) a (eC 2 7 a (fun _ _ a=>uZ y D d J oM _ _ a.g a.f.1) ?_));rintro _ _ _ _ _ a ⟨I,o,rfl,F,K⟩;replace a:=a.aS K;refine eC 3 8 a (fun _ _ a=>tY x A c C oM (-y) I o F oM _ _ a.g a.f.r.1 a.f.1) ?_;rintro _ _ _ _ _ a ⟨e,i,rfl,H,B⟩;replace a:=a.aS B;exact bS a (fun _ _ a=>tP 4 0 0 ([.bool (af (x+(-y))),qS e ((lim (ab (x+(-y)))).length) i]) a (fun _ a=>tN (kX (a.ret [(0,0,2)] (.agg #[.bool (af (x+(-y))),qS e ((lim (ab (x+(-y)))).length) i]) (by rw[Int.sub_eq_add_neg];exact ⟨_,_,rfl,H,a.f.1⟩)))))
theorem vA (x y:Int):(x-y).sign=ei x y:=by
 unfold ei
 rcases MX x y with h|h|h
 ·rw[if_pos h,MY oM]
 ·subst h;simp
 ·rw[if_neg oM,if_pos h,MZ oM]
theorem El (x:Int)(A:Z9)(c:Nat)(B:(lim (ab x)).length<=c)(e:(lim (ab x)).length<=1999999999)(y:Int)(D:Z9)(d:Nat)(H:(lim (ab y)).length<=d)(i:(lim (ab y)).length<=1999999999)(w:World)(h:Hp)(g:G w h)(z:S3 A (lim (ab x)) h)(u:S3 D (lim (ab y)) h):CV 130 #[.agg #[.bool (af x),.slice A ((lim (ab x)).length) c],.agg #[.bool (af y),.slice D ((lim (ab y)).length) d]] w h (iV (ei x y)):=by
 have a:=(((sS g).aS z).aS u);have l:(lim (ab (x-y))).length<=2000000000:=gn (show ab (x-y)<=ab x+ab y by unfold ab;omega) (iJ e i);refine go Tryz.func130 [(0,.agg #[.bool (af x),qS A ((lim (ab x)).length) c]),(1,.agg #[.bool (af y),qS D ((lim (ab y)).length) d])] rfl (aD (lA 2 26 ([.bool (af x),qS A ((lim (ab x)).length) c]) a (fun J w2 K a=>lA 3 26 ([.bool (af y),qS D ((lim (ab y)).length) d]) a (fun L M I a=>lL a ac (aG (lL a [.o (.agg #[.bool (af x),qS A ((lim (ab x)).length) c]) 1 0 2,.o (.agg #[.bool (af y),qS D ((lim (ab y)).length) d]) 0 0 2] (lC 7 a (EQ x A c B oM y D d H oM _ _ a.g a.f.2.1 a.f.1) ?_)))))));rintro _ _ _ a ⟨p,C,rfl,j,F⟩;replace a:=a.aS F;exact aq 8 a (pY (x-y) p C j oM _ _ a.g a.f.1) (fun _ _ a=>lL a ac (ae a [] (iV (((x-y)).sign)) (by rw[vA])))
theorem BF (a:Nat)(A:Z9)(c:Nat)(l:(lim a).length<=c)(b:Nat)(D:Z9)(d:Nat)(p:(lim b).length<=d)(q:Nat)(o:q=My a b)(e:(lim a).length<=3000000000)(f:(lim b).length<=3000000000)(w:World)(h:Hp)(g:G w h)(j:S3 A (lim a) h)(i:S3 D (lim b) h):CR 137 #[.slice A (lim a).length c,.slice D (lim b).length d] w h (fun v h1=>RN h1 v q):=by
 subst o;exact Ct a A c l b D d p e f w h g j i
theorem nE (n d:Int)(l:d≠0):(mkR n d).num=bA (af n != af d) (ab n/My (ab n) (ab d))/\(mkR n d).den=ab d/My (ab n) (ab d)/\0<My (ab n) (ab d):=by
  have c:0<ab d:=by unfold ab;omega
  have hz:ab (if d<0 then -n else n)=ab n:=by unfold ab;split<;>omega
  obtain ⟨h1,f,h,i⟩:=iB (if d<0 then -n else n) (ab d) c;rw[hz] at h1 f h i
  refine ⟨?_,f,i⟩;have j:=pT _ _ h;rw[hz] at j
  show (mkRat _ _).num=_
  rw[h1,<-j]
  by_cases hn:n=0
  . have hk:ab n/My (ab n) (ab d)=0:=by rw[hn];exact Nat.zero_div _
    rw[hk]
    unfold bA
    simp
  . have e:decide ((if d<0 then -n else n).sign<0)=(af n != af d):=by
      unfold af
      rcases MX n 0 with a|a|a
      . rcases MX d 0 with b|b|b
        . rw[if_pos b,MZ oM];simp[a,b]
        . exact absurd b l
        . rw[if_neg oM,MY a];simp[a,show ¬d<0 by omega]
      . exact absurd a hn
      . rcases MX d 0 with b|b|b
        . rw[if_pos b,MY oM];simp[show ¬n<0 by omega,b]
        . exact absurd b l
        . rw[if_neg oM,MZ a];simp[show ¬n<0 by omega,show ¬d<0 by omega]
    rw[e]
theorem xq (x:Int)(A:Z9)(c:Nat)(O:(lim (ab x)).length<=c)(X:(lim (ab x)).length<=2000000000)(y:Int)(D:Z9)(d:Nat)(K:(lim (ab y)).length<=d)(C:(lim (ab y)).length<=2000000000)(I:y≠0)(w:World)(h:Hp)(g:G w h)(hA:S3 A (lim (ab x)) h)(W:S3 D (lim (ab y)) h):CR 103 #[.agg #[.bool (af x),.slice A ((lim (ab x)).length) c],.agg #[.bool (af y),.slice D ((lim (ab y)).length) d]] w h (fun v h1=>RQ h1 v (mkR x y)):=by
 have a:=(((sS g).aS hA).aS W);obtain ⟨p,l,j⟩:=nE x y I;obtain ⟨q,hq⟩:∃ q,q=My (ab x) (ab y):=⟨_,rfl⟩;rw[<-hq] at p l j
 have hql:(lim q).length<=2000000000:=gn (by rw[hq];exact Ni _ (by unfold ab;omega)) C;refine go Tryz.func103 [(0,.agg #[.bool (af x),qS A ((lim (ab x)).length) c]),(1,.agg #[.bool (af y),qS D ((lim (ab y)).length) d])] rfl (aD (lA 2 26 ([.bool (af x),qS A ((lim (ab x)).length) c]) a (fun B w2 h3 a=>lA 3 26 ([.bool (af y),qS D ((lim (ab y)).length) d]) a (fun F w5 h6 a=>lA 4 28 ca a (fun b7 w8 h9 a=>aG (lL a [.v (qP B 1),.o (qS A ((lim (ab x)).length) c) 2 1 1,.v (qP F 1),.o (qS D ((lim (ab y)).length) d) 1 1 1] (lC 14 a (BF (ab x) A c O (ab y) D d K q hq oM oM _ _ a.g a.f.2.1 a.f.1) ?_)))))));rintro _ _ _ a ⟨M,U,rfl,Q,zk⟩;replace a:=a.aS zk;refine lL a ac (aG (lL a [.v (qP B 1),.o (qS A ((lim (ab x)).length) c) 2 1 1,.c] (lC 19 a (o6 (ab x) A c O q M U Q oM oM j _ _ a.g a.f.r.1 a.f.1) ?_)));rintro _ _ _ a ⟨_,e,rfl,⟨L,S,rfl,zl,zm⟩,-⟩;replace a:=a.aS zm;refine lL a [.c,.v (qS L ((lim ((ab x)/q)).length) S),.v e,.c,.c] (aG (lL a [.v (qP F 1),.o (qS D ((lim (ab y)).length) d) 1 1 1,.c] (lC 26 a (o6 (ab y) D d K q M U Q oM oM j _ _ a.g a.f.r.1 a.f.2.1) ?_)));rintro _ _ _ a ⟨_,i,rfl,⟨u,z,rfl,Z,zo⟩,-⟩;replace a:=a.aS zo;refine lL a [.c,.v (qS u ((lim ((ab y)/q)).length) z),.v i,.c,.c] (aG (lL a [.v (pB B),.o (.bool (af x)) 2 0 1,.v (pB F),.o (.bool (af y)) 1 0 1,.v (.bool ((af x) != (af y))),.c] (lC 35 a (rI ((af x) != (af y)) ((ab x)/q) L S zl _ _ a.g a.f.2.1) ?_)));rintro _ _ _ a ⟨J,H,rfl,V,Y⟩;replace a:=a.aS Y;exact lL a [.c,.v (.agg #[.bool (af (bA ((af x) != (af y)) ((ab x)/q))),qS J ((lim (ab (bA ((af x) != (af y)) ((ab x)/q)))).length) H,qS u ((lim ((ab y)/q)).length) z])] (lP 0 0 ([.bool (af (bA ((af x) != (af y)) ((ab x)/q))),qS J ((lim (ab (bA ((af x) != (af y)) ((ab x)/q)))).length) H,qS u ((lim ((ab y)/q)).length) z]) a (fun _ a=>ae a [(0,0,3)] (.agg #[.bool (af (bA ((af x) != (af y)) ((ab x)/q))),qS J ((lim (ab (bA ((af x) != (af y)) ((ab x)/q)))).length) H,qS u ((lim ((ab y)/q)).length) z]) (by unfold RQ;rw[p,l];exact ⟨_,_,_,_,rfl,V,Z,a.f.1,a.f.2.1⟩)))
theorem iW (x:Int)(d:Nat):(lim (ab (x*((d:Nat):Int)))).length<=(lim (ab x)).length+(lim d).length:=by
 have:ab (x*((d:Nat):Int))=ab x*d:=MU x (d:Int);rw[this];exact gm
theorem vp (a:Rat)(i:Z9)(c1:Nat)(e:Z9)(d:Nat)(D:(lim (ab a.num)).length<=c1)(u:(lim a.den).length<=d)(B:(lim (ab a.num)).length<=300000000)(F:(lim a.den).length<=300000000)(w:World)(h:Hp)(g:G w h)(j:S3 i (lim (ab a.num)) h)(p:S3 e (lim a.den) h):CR 132 #[.agg #[.bool (af a.num),.slice i ((lim (ab a.num)).length) c1,.slice e ((lim (a.den)).length) d]] w h (fun v h1=>RI h1 v (a.den:Int)):=by
 have c:=(((sS g).aS j).aS p);refine go Tryz.func132 [(0,.agg #[.bool (af a.num),qS i ((lim (ab a.num)).length) c1,qS e ((lim (a.den)).length) d])] rfl (aD (lA 1 28 ([.bool (af a.num),qS i ((lim (ab a.num)).length) c1,qS e ((lim (a.den)).length) d]) c (fun z w2 I c=>lA 2 26 ([qF,sZ]) c (fun J K H c=>aG (lL c [.v (qP z 2),.o (qS e ((lim (a.den)).length) d) 1 2 1] (lC 5 c (rI false a.den e d u _ _ c.g c.f.1) ?_))))));rintro _ _ _ c ⟨x,y,rfl,l,C⟩;replace c:=c.aS C;exact lP 0 0 ([.bool (af (bA false a.den)),qS x ((lim (ab (bA false a.den))).length) y]) c (fun _ c=>ae c [(0,0,2)] (.agg #[.bool (af (bA false a.den)),qS x ((lim (ab (bA false a.den))).length) y]) (⟨_,_,rfl,l,c.f.1⟩))
theorem xW (a:Rat)(d:Z9)(c1:Nat)(e:Z9)(i:Nat)(p:(lim (ab a.num)).length<=c1)(y:(lim a.den).length<=i)(x:(lim (ab a.num)).length<=300000000)(z:(lim a.den).length<=300000000)(w:World)(h:Hp)(g:G w h)(j:S3 d (lim (ab a.num)) h)(l:S3 e (lim a.den) h):CV 95 #[.agg #[.bool (af a.num),.slice d ((lim (ab a.num)).length) c1,.slice e ((lim (a.den)).length) i]] w h (iV a.num.sign):=by
 have c:=(((sS g).aS j).aS l);exact go Tryz.func95 [(0,.agg #[.bool (af a.num),qS d ((lim (ab a.num)).length) c1,qS e ((lim (a.den)).length) i])] rfl (aD (lA 1 28 ([.bool (af a.num),qS d ((lim (ab a.num)).length) c1,qS e ((lim (a.den)).length) i]) c (fun u w2 B c=>lL c ac (aG (lL c [.v (pB u),.o (.agg #[.bool (af a.num),qS d ((lim (ab a.num)).length) c1]) 0 0 2] (aq 5 c (pY a.num d c1 p oM _ _ c.g c.f.2.1) (fun C D c=>lL c ac (ae c [] (iV ((a.num).sign)) rfl))))))))
theorem Je (a:Rat)(d:Z9)(c1:Nat)(o:Z9)(l:Nat)(u:(lim (ab a.num)).length<=c1)(F:(lim a.den).length<=l)(V:(lim (ab a.num)).length<=300000000)(hm1:(lim a.den).length<=300000000)(b:Rat)(e:Z9)(c2:Nat)(j:Z9)(i:Nat)(p:(lim (ab b.num)).length<=c2)(B:(lim b.den).length<=i)(S:(lim (ab b.num)).length<=300000000)(hm2:(lim b.den).length<=300000000)(w:World)(h:Hp)(g:G w h)(z:S3 d (lim (ab a.num)) h)(D:S3 o (lim a.den) h)(y:S3 e (lim (ab b.num)) h)(x:S3 j (lim b.den) h):CV 97 #[.agg #[.bool (af a.num),.slice d ((lim (ab a.num)).length) c1,.slice o ((lim (a.den)).length) l],.agg #[.bool (af b.num),.slice e ((lim (ab b.num)).length) c2,.slice j ((lim (b.den)).length) i]] w h (iV (di a b)):=by
 have c:=(((((sS g).aS z).aS D).aS y).aS x);have hx1:=iW a.num b.den;have H:=iW b.num a.den;refine go Tryz.func97 [(0,.agg #[.bool (af a.num),qS d ((lim (ab a.num)).length) c1,qS o ((lim (a.den)).length) l]),(1,.agg #[.bool (af b.num),qS e ((lim (ab b.num)).length) c2,qS j ((lim (b.den)).length) i])] rfl (aD (lA 2 28 ([.bool (af a.num),qS d ((lim (ab a.num)).length) c1,qS o ((lim (a.den)).length) l]) c (fun I w2 h3 c=>lA 3 28 ([.bool (af b.num),qS e ((lim (ab b.num)).length) c2,qS j ((lim (b.den)).length) i]) c (fun U w5 h6 c=>lL c ac (ah (cR 11 [] mixed c ar ?_))))));refine eV 0 5 (pB I) (eO 1 6 [(1,0,2)] (.agg #[.bool (af a.num),qS d ((lim (ab a.num)).length) c1]) c (eO 2 7 [(0,0,3)] (.agg #[.bool (af b.num),qS e ((lim (ab b.num)).length) c2,qS j ((lim (b.den)).length) i]) c (eV 5 10 (pB U) (eO 6 11 [(0,0,2)] (.agg #[.bool (af b.num),qS e ((lim (ab b.num)).length) c2]) c (eO 7 12 [(1,0,3)] (.agg #[.bool (af a.num),qS d ((lim (ab a.num)).length) c1,qS o ((lim (a.den)).length) l]) c (eC 3 8 c (fun _ _ c=>vp b e c2 j i p B oM oM _ _ c.g c.f.2.1 c.f.1) ?_))))));rintro _ _ _ _ _ c ⟨J,X,rfl,C,Y⟩;replace c:=c.aS Y;refine eC 4 9 c (fun _ _ c=>g5 a.num d c1 u oM (b.den:Int) J X C (show (lim (b.den)).length<=2000000000 by omega) _ _ c.g c.f.q.1 c.f.1) ?_;rintro _ _ _ _ _ c ⟨K,zj,rfl,zb,Z⟩;replace c:=c.aS Z;refine eC 8 13 c (fun _ _ c=>vp a d c1 o l u F oM oM _ _ c.g c.f.q.2.1 c.f.q.1) ?_;rintro _ _ _ _ _ c ⟨M,W,rfl,zd,ze⟩;replace c:=c.aS ze;refine eC 9 14 c (fun _ _ c=>g5 b.num e c2 p oM (a.den:Int) M W zd (show (lim (a.den)).length<=2000000000 by omega) _ _ c.g c.f.q.1 c.f.1) ?_;rintro _ _ _ _ _ c ⟨O,L,rfl,Q,zg⟩;replace c:=c.aS zg;exact au 10 15 c (fun _ _ c=>El (a.num*(b.den:Int)) K zj zb oM (b.num*(a.den:Int)) O L Q oM _ _ c.g c.f.r.1 c.f.1) (fun _ _ c=>bS c (fun _ _ c=>tV 11 4 (iV (ei (a.num*(b.den:Int)) (b.num*(a.den:Int)))) (tN (kX (c.ret [] (iV (ei (a.num*(b.den:Int)) (b.num*(a.den:Int)))) rfl)))))
theorem AZ (x y:Int){k:Nat}(c:(lim (ab x)).length<=k)(a:(lim (ab y)).length<=k):(lim (ab (x+y))).length<=k+1:=gn (show ab (x+y)<=ab x+ab y from Nj x y) (iJ c a)
theorem nK (x y:Int):(lim (ab (x*y))).length<=(lim (ab x)).length+(lim (ab y)).length:=by
 have:ab (x*y)=ab x*ab y:=MU x y;rw[this];exact gm
theorem t7 (z:Int)(n:Nat):mkR z (bA false n)=mkRat z n:=by
 have h1:bA false n=(n:Int):=rfl;rw[h1];unfold mkR;rw[if_neg oM];rfl
theorem Eu (a b:Rat):mkR (a.num*((b.den:Nat):Int)+b.num*((a.den:Nat):Int)) (bA false (a.den*b.den))=a+b:=by
 rw[t7,Rat.add_def,Np]
theorem Cu (a b:Rat):mkR (a.num*b.num) (bA false (a.den*b.den))=a*b:=by
 rw[t7,Rat.mul_def,Np]
theorem Fc (a b:Rat):bA false (a.den*b.den)≠0:=by
 have h:=Nat.mul_pos a.den_pos b.den_pos
 show ((a.den*b.den:Nat):Int)≠0
 omega
theorem GD (a:Rat)(j:Z9)(c1:Nat)(o:Z9)(e:Nat)(u:(lim (ab a.num)).length<=c1)(p:(lim a.den).length<=e)(hn1:(lim (ab a.num)).length<=300000000)(hm1:(lim a.den).length<=300000000)(b:Rat)(i:Z9)(c2:Nat)(d:Z9)(l:Nat)(y:(lim (ab b.num)).length<=c2)(x:(lim b.den).length<=l)(hn2:(lim (ab b.num)).length<=300000000)(hm2:(lim b.den).length<=300000000)(w:World)(h:Hp)(g:G w h)(B:S3 j (lim (ab a.num)) h)(D:S3 o (lim a.den) h)(z:S3 i (lim (ab b.num)) h)(C:S3 d (lim b.den) h):CR 125 #[.agg #[.bool (af a.num),.slice j ((lim (ab a.num)).length) c1,.slice o ((lim (a.den)).length) e],.agg #[.bool (af b.num),.slice i ((lim (ab b.num)).length) c2,.slice d ((lim (b.den)).length) l]] w h (fun v h1=>RQ h1 v (a+b)):=by
 have c:=(((((sS g).aS B).aS D).aS z).aS C);have hx1:=iW a.num b.den;have M:=iW b.num a.den;have hxs:=AZ (a.num*(b.den:Int)) (b.num*(a.den:Int)) (k:=600000000) oM oM;have hdl:=@gm a.den b.den;refine go Tryz.func125 [(0,.agg #[.bool (af a.num),qS j ((lim (ab a.num)).length) c1,qS o ((lim (a.den)).length) e]),(1,.agg #[.bool (af b.num),qS i ((lim (ab b.num)).length) c2,qS d ((lim (b.den)).length) l])] rfl (aD (lA 2 28 ([.bool (af a.num),qS j ((lim (ab a.num)).length) c1,qS o ((lim (a.den)).length) e]) c (fun H w2 h3 c=>lA 3 28 ([.bool (af b.num),qS i ((lim (ab b.num)).length) c2,qS d ((lim (b.den)).length) l]) c (fun F w5 h6 c=>lA 4 28 ca c (fun b7 w8 h9 c=>ah (cR 18 [] mixed c ar ?_))))));refine eV 0 5 (pB H) (eO 1 6 [(2,0,2)] (.agg #[.bool (af a.num),qS j ((lim (ab a.num)).length) c1]) c (eO 2 7 [(1,0,3)] (.agg #[.bool (af b.num),qS i ((lim (ab b.num)).length) c2,qS d ((lim (b.den)).length) l]) c (eV 5 10 (pB F) (eO 6 11 [(1,0,2)] (.agg #[.bool (af b.num),qS i ((lim (ab b.num)).length) c2]) c (eO 7 12 [(2,0,3)] (.agg #[.bool (af a.num),qS j ((lim (ab a.num)).length) c1,qS o ((lim (a.den)).length) e]) c (eV 11 16 (qP H 2) (eO 12 17 [(2,2,1)] (qS o ((lim (a.den)).length) e) c (eV 13 18 (qP F 2) (eO 14 19 [(1,2,1)] (qS d ((lim (b.den)).length) l) c (eC 3 8 c (fun _ _ c=>vp b i c2 d l y x oM oM _ _ c.g c.f.2.1 c.f.1) ?_))))))))));rintro _ _ _ _ _ c ⟨zx,Y,rfl,ze,zf⟩;replace c:=c.aS zf;refine eC 4 9 c (fun _ _ c=>g5 a.num j c1 u oM (b.den:Int) zx Y ze (show (lim (b.den)).length<=2000000000 by omega) _ _ c.g c.f.q.1 c.f.1) ?_;rintro _ _ _ _ _ c ⟨S,zD,rfl,X,zi⟩;replace c:=c.aS zi;refine eC 8 13 c (fun _ _ c=>vp a j c1 o e u p oM oM _ _ c.g c.f.q.2.1 c.f.q.1) ?_;rintro _ _ _ _ _ c ⟨zE,V,rfl,zj,zk⟩;replace c:=c.aS zk;refine eC 9 14 c (fun _ _ c=>g5 b.num i c2 y oM (a.den:Int) zE V zj (show (lim (a.den)).length<=2000000000 by omega) _ _ c.g c.f.q.1 c.f.1) ?_;rintro _ _ _ _ _ c ⟨zH,zI,rfl,zl,Q⟩;replace c:=c.aS Q;refine eC 10 15 c (fun _ _ c=>tY (a.num*(b.den:Int)) S zD X oM (b.num*(a.den:Int)) zH zI zl oM _ _ c.g c.f.r.1 c.f.1) ?_;rintro _ _ _ _ _ c ⟨O,zK,rfl,zn,zo⟩;replace c:=c.aS zo;refine eC 15 20 c (fun _ _ c=>oJ a.den o e p b.den d l x oM oM _ _ c.g c.f.q.r.2.1 c.f.q.2.1) ?_;rintro _ _ _ _ _ c ⟨Z,zM,rfl,zp,zq⟩;replace c:=c.aS zq;refine eC 16 21 c (fun _ _ c=>rI false (a.den*b.den) Z zM zp _ _ c.g c.f.1) ?_;rintro _ _ _ _ _ c ⟨zN,zP,rfl,zr,zs⟩;replace c:=c.aS zs;refine eC 17 22 c (fun _ _ c=>xq ((a.num*(b.den:Int))+(b.num*(a.den:Int))) O zK zn oM (bA false (a.den*b.den)) zN zP zr (show (lim ((a.den*b.den))).length<=2000000000 by omega) (Fc a b) _ _ c.g c.f.r.1 c.f.1) ?_;rintro _ _ _ _ _ c ⟨K,I,J,L,rfl,zt,zu,W,U⟩;replace c:=c.aP W U;exact bS c (fun _ _ c=>tP 18 0 0 (iS (mkR ((a.num*(b.den:Int))+(b.num*(a.den:Int))) (bA false (a.den*b.den))) K I J L) c (fun _ c=>tN (kX (c.ret [(0,0,3)] (rG (mkR ((a.num*(b.den:Int))+(b.num*(a.den:Int))) (bA false (a.den*b.den))) K I J L) (by rw[<-Eu a b];exact ⟨_,_,_,_,rfl,zt,zu,c.f.2.1,c.f.1⟩)))))
theorem FN (a:Rat)(l:Z9)(c1:Nat)(j:Z9)(i:Nat)(D:(lim (ab a.num)).length<=c1)(C:(lim a.den).length<=i)(Z:(lim (ab a.num)).length<=300000000)(hm1:(lim a.den).length<=300000000)(b:Rat)(o:Z9)(c2:Nat)(e:Z9)(d:Nat)(x:(lim (ab b.num)).length<=c2)(z:(lim b.den).length<=d)(Y:(lim (ab b.num)).length<=300000000)(hm2:(lim b.den).length<=300000000)(w:World)(h:Hp)(g:G w h)(y:S3 l (lim (ab a.num)) h)(B:S3 j (lim a.den) h)(u:S3 o (lim (ab b.num)) h)(p:S3 e (lim b.den) h):CR 126 #[.agg #[.bool (af a.num),.slice l ((lim (ab a.num)).length) c1,.slice j ((lim (a.den)).length) i],.agg #[.bool (af b.num),.slice o ((lim (ab b.num)).length) c2,.slice e ((lim (b.den)).length) d]] w h (fun v h1=>RQ h1 v (a*b)):=by
 have c:=(((((sS g).aS y).aS B).aS u).aS p);have hx1:=nK a.num b.num;have hdl:=@gm a.den b.den;refine go Tryz.func126 [(0,.agg #[.bool (af a.num),qS l ((lim (ab a.num)).length) c1,qS j ((lim (a.den)).length) i]),(1,.agg #[.bool (af b.num),qS o ((lim (ab b.num)).length) c2,qS e ((lim (b.den)).length) d])] rfl (aD (lA 2 28 ([.bool (af a.num),qS l ((lim (ab a.num)).length) c1,qS j ((lim (a.den)).length) i]) c (fun F w2 h3 c=>lA 3 28 ([.bool (af b.num),qS o ((lim (ab b.num)).length) c2,qS e ((lim (b.den)).length) d]) c (fun H w5 h6 c=>lA 4 28 ca c (fun b7 w8 h9 c=>ah (cR 12 [] mixed c ar ?_))))));refine eV 0 5 (pB F) (eO 1 6 [(2,0,2)] (.agg #[.bool (af a.num),qS l ((lim (ab a.num)).length) c1]) c (eV 2 7 (pB H) (eO 3 8 [(1,0,2)] (.agg #[.bool (af b.num),qS o ((lim (ab b.num)).length) c2]) c (eV 5 10 (qP F 2) (eO 6 11 [(2,2,1)] (qS j ((lim (a.den)).length) i) c (eV 7 12 (qP H 2) (eO 8 13 [(1,2,1)] (qS e ((lim (b.den)).length) d) c (eC 4 9 c (fun _ _ c=>g5 a.num l c1 D oM b.num o c2 x oM _ _ c.g c.f.r.2.1 c.f.2.1) ?_))))))));rintro _ _ _ _ _ c ⟨M,S,rfl,ze,W⟩;replace c:=c.aS W;refine eC 9 14 c (fun _ _ c=>oJ a.den j i C b.den e d z oM oM _ _ c.g c.f.r.2.1 c.f.2.1) ?_;rintro _ _ _ _ _ c ⟨zr,zs,rfl,zg,Q⟩;replace c:=c.aS Q;refine eC 10 15 c (fun _ _ c=>rI false (a.den*b.den) zr zs zg _ _ c.g c.f.1) ?_;rintro _ _ _ _ _ c ⟨zt,O,rfl,zj,V⟩;replace c:=c.aS V;refine eC 11 16 c (fun _ _ c=>xq (a.num*b.num) M S ze oM (bA false (a.den*b.den)) zt O zj (show (lim ((a.den*b.den))).length<=2000000000 by omega) (Fc a b) _ _ c.g c.f.r.1 c.f.1) ?_;rintro _ _ _ _ _ c ⟨J,K,I,L,rfl,zl,X,U,zo⟩;replace c:=c.aP U zo;exact bS c (fun _ _ c=>tP 12 0 0 (iS (mkR (a.num*b.num) (bA false (a.den*b.den))) J K I L) c (fun _ c=>tN (kX (c.ret [(0,0,3)] (rG (mkR (a.num*b.num) (bA false (a.den*b.den))) J K I L) (by rw[<-Cu a b];exact ⟨_,_,_,_,rfl,zl,X,c.f.2.1,c.f.1⟩)))))
theorem HD (n d:Int)(c:d≠0):mkR n d=(n:Rat)/(d:Rat):=by
 unfold mkR
 have f:(d:Rat)≠0:=by simpa using c
 rcases MX d 0 with h|h|h
 ·rw[if_pos h,Nq]
  have e:((ab d:Nat):Rat) = -(d:Rat):=by
   have:((ab d:Nat):Int) = -d:=by unfold ab;omega
   have a:(((ab d:Nat):Int):Rat)=((-d:Int):Rat):=by rw[this]
   rw[Nr,Rat.intCast_neg] at a;exact a
  rw[e];simp;grind
 ·exact absurd h c
 ·rw[if_neg oM,Nq]
  have e:((ab d:Nat):Rat)=(d:Rat):=by
   have:((ab d:Nat):Int)=d:=by unfold ab;omega
   have a:(((ab d:Nat):Int):Rat)=((d:Int):Rat):=by rw[this]
   rw[Nr] at a;exact a
  rw[e]
theorem DO (a b:Rat)(d:b.num≠0):mkR (a.num*((b.den:Nat):Int)) (((a.den:Nat):Int)*b.num)=a/b:=by
 have ha:=a.den_pos;have h:=b.den_pos;have c:((a.den:Nat):Int)*b.num≠0:=Ns oM d;rw[HD _ _ c];have e:a=(a.num:Rat)/(a.den:Rat):=by rw[<-Nq,Nt]
 have i:b=(b.num:Rat)/(b.den:Rat):=by rw[<-Nq,Nt]
 have h1:((a.den:Nat):Rat)≠0:=by simp;omega
 have j:((b.den:Nat):Rat)≠0:=by simp;omega
 have l:((b.num:Int):Rat)≠0:=by simpa using d
 have f:a/b=((a.num:Rat)/(a.den:Rat))/((b.num:Rat)/(b.den:Rat)):=by rw[<-e,<-i]
 rw[f]
 simp only[Rat.intCast_mul,Nr]
 generalize (a.num:Rat)=x at *
 generalize (b.num:Rat)=y at *
 generalize ((a.den:Nat):Rat)=z at *
 generalize ((b.den:Nat):Rat)=t at *
 grind
theorem vV {z:Int}(h0 : -9223372036854775808<=z)(h1:z<9223372036854775808):(lim (ab z)).length<=2:=eo (by unfold ab;omega)
theorem vR (z:Int)(h0 : -9223372036854775808<=z)(h1:z<9223372036854775808)(w:World)(h:Hp)(g:G w h):CR 15 #[iV z] w h (fun v h1=>RQ h1 v (z:Rat)):=by
 have a:=sS g;refine go Tryz.func15 [(0,iV z)] rfl (aD (lA 2 28 ca a (fun u w2 x a=>aG (lL a ac (lC 4 a (sL z oM oM _ _ a.g) ?_)))));rintro _ B y a ⟨l,i,rfl,c,j⟩;replace a:=a.aS j;refine lC 5 a (ot 1 oM _ _ a.g) ?_;rintro _ _ _ a ⟨d,e,rfl,o,p⟩;replace a:=a.aS p;exact lL a [.v (.agg #[.bool (af z),qS l ((lim (ab z)).length) i,qS d ((lim 1).length) e])] (lP 0 0 ([.bool (af z),qS l ((lim (ab z)).length) i,qS d ((lim 1).length) e]) a (fun _ a=>ae a [(0,0,3)] (.agg #[.bool (af z),qS l ((lim (ab z)).length) i,qS d ((lim 1).length) e]) (by unfold RQ;rw[Nd,Nf];exact ⟨_,_,_,_,rfl,c,o,a.f.2.1,a.f.1⟩)))
theorem KH (a:Rat)(d:Z9)(c1:Nat)(o:Z9)(l:Nat)(x:(lim (ab a.num)).length<=c1)(F:(lim a.den).length<=l)(hn1:(lim (ab a.num)).length<=300000000)(hm1:(lim a.den).length<=300000000)(b:Rat)(e:Z9)(c2:Nat)(j:Z9)(i:Nat)(u:(lim (ab b.num)).length<=c2)(C:(lim b.den).length<=i)(Z:(lim (ab b.num)).length<=300000000)(hm2:(lim b.den).length<=300000000)(p:b.num≠0)(w:World)(h:Hp)(g:G w h)(B:S3 d (lim (ab a.num)) h)(D:S3 o (lim a.den) h)(z:S3 e (lim (ab b.num)) h)(y:S3 j (lim b.den) h):CR 129 #[.agg #[.bool (af a.num),.slice d ((lim (ab a.num)).length) c1,.slice o ((lim (a.den)).length) l],.agg #[.bool (af b.num),.slice e ((lim (ab b.num)).length) c2,.slice j ((lim (b.den)).length) i]] w h (fun v h1=>RQ h1 v (a/b)):=by
 have c:=(((((sS g).aS B).aS D).aS z).aS y);have hx1:=iW a.num b.den;have L:(lim (ab ((a.den:Int)*b.num))).length<=600000000:=eb (nK (a.den:Int) b.num) (by show (lim a.den).length+_<=_;omega);refine go Tryz.func129 [(0,.agg #[.bool (af a.num),qS d ((lim (ab a.num)).length) c1,qS o ((lim (a.den)).length) l]),(1,.agg #[.bool (af b.num),qS e ((lim (ab b.num)).length) c2,qS j ((lim (b.den)).length) i])] rfl (aD (lA 2 28 ([.bool (af a.num),qS d ((lim (ab a.num)).length) c1,qS o ((lim (a.den)).length) l]) c (fun M w2 h3 c=>lA 3 28 ([.bool (af b.num),qS e ((lim (ab b.num)).length) c2,qS j ((lim (b.den)).length) i]) c (fun b4 w5 h6 c=>lA 4 28 ca c (fun b7 w8 h9 c=>ah (cR 11 [] mixed c ar ?_))))));refine eV 0 5 (pB M) (eO 1 6 [(2,0,2)] (.agg #[.bool (af a.num),qS d ((lim (ab a.num)).length) c1]) c (eO 2 7 [(1,0,3)] (.agg #[.bool (af b.num),qS e ((lim (ab b.num)).length) c2,qS j ((lim (b.den)).length) i]) c (eO 5 10 [(2,0,3)] (.agg #[.bool (af a.num),qS d ((lim (ab a.num)).length) c1,qS o ((lim (a.den)).length) l]) c (eV 7 12 (pB b4) (eO 8 13 [(1,0,2)] (.agg #[.bool (af b.num),qS e ((lim (ab b.num)).length) c2]) c (eC 3 8 c (fun _ _ c=>vp b e c2 j i u C oM oM _ _ c.g c.f.2.1 c.f.1) ?_))))));rintro _ _ _ _ _ c ⟨zr,zs,rfl,ze,X⟩;replace c:=c.aS X;refine eC 4 9 c (fun _ _ c=>g5 a.num d c1 x oM (b.den:Int) zr zs ze (show (lim (b.den)).length<=2000000000 by omega) _ _ c.g c.f.q.1 c.f.1) ?_;rintro _ _ _ _ _ c ⟨zt,Q,rfl,zg,S⟩;replace c:=c.aS S;refine eC 6 11 c (fun _ _ c=>vp a d c1 o l x F oM oM _ _ c.g c.f.q.2.1 c.f.q.1) ?_;rintro _ _ _ _ _ c ⟨zv,zw,rfl,zj,W⟩;replace c:=c.aS W;refine eC 9 14 c (fun _ _ c=>g5 (a.den:Int) zv zw zj (show (lim (a.den)).length<=2000000000 by omega) b.num e c2 u oM _ _ c.g c.f.1 c.f.q.1) ?_;rintro _ _ _ _ _ c ⟨zx,zA,rfl,zl,Y⟩;replace c:=c.aS Y;refine eC 10 15 c (fun _ _ c=>xq (a.num*(b.den:Int)) zt Q zg oM ((a.den:Int)*b.num) zx zA zl oM (Ns (by have:=a.den_pos;omega) p) _ _ c.g c.f.r.1 c.f.1) ?_;rintro _ _ _ _ _ c ⟨I,J,H,K,rfl,V,zo,O,U⟩;replace c:=c.aP O U;exact bS c (fun _ _ c=>tP 11 0 0 (iS (mkR (a.num*(b.den:Int)) ((a.den:Int)*b.num)) I J H K) c (fun _ c=>tN (kX (c.ret [(0,0,3)] (rG (mkR (a.num*(b.den:Int)) ((a.den:Int)*b.num)) I J H K) (by rw[<-DO a b p];exact ⟨_,_,_,_,rfl,V,zo,c.f.2.1,c.f.1⟩)))))
theorem F8 {P:Program}{Γ:cl}{o:Oper}{t u:TypeId}{x y:Operand}{k ky:IntKind}{a n:Nat}(e:o.op=.binOp .shr t x y u)(d:ev Γ x=.int k (a:Int))(c:ev Γ y=.int ky (n:Int))(hn:n<=k.bits)(w:World) :
  (execOp (ev Γ) o).run P w=.ok (.value (.int k ((a/2^n:Nat):Int))) w:=by
 have:=IG (P:=P) e d c hn w;rw[show ((a:Int)/2^n)=((a/2^n:Nat):Int) by simp] at this
 exact this
theorem wV {P:Program}{Γ:cl}{o:Oper}{t u:TypeId}{x y:Operand}{ky:IntKind}{a n:Nat}(e:o.op=.binOp .shl t x y u)(d:ev Γ x=.int .u32 (a:Int))(c:ev Γ y=.int ky (n:Int))(hn:n<=32)(hf:a*2^n<4294967296)(w:World) :
  (execOp (ev Γ) o).run P w=.ok (.value (.int .u32 ((a*2^n:Nat):Int))) w:=by
 have:=Ib (P:=P) e d c hn w;rw[show ((a:Int)*2^n)=((a*2^n:Nat):Int) by simp,IV hf] at this
 exact this
theorem vk (a:Nat)(A:Z9)(c:Nat)(X:(lim a).length<=c)(H:(lim a).length<=4000000000)(w:World)(h:Hp)(g:G w h)(U:S3 A (lim a) h):CR 84 #[.slice A ((lim a).length) c] w h (fun v h1=>∃ A,v=.slice A ((nb a+7)/8) ((nb a+7)/8)/\SlO 1 nq 0 h1 A (fZ a ((nb a+7)/8))):=by
 have e:=((sS g).aS U);have W:=sV a;refine go Tryz.func84 [(0,qS A ((lim a).length) c)] rfl (aa e ac (aG (lL e ac (aq 7 e (qo a A c X H _ _ e.g e.f.1) (fun w1 h2 e=>bv 8 ((nb a:Nat)+7) ((nb a)+7) (lV 9 (nV (((nb a)+7)/8)) ?_ (hr:=aI (dD (t:=3) (u:=3) (x:=.tmp 8) (y:=.const (iV 8)) (k:=.i64) (a:=(((nb a)+7:Nat):Int)) (b:=(8:Int)) kR kR kR oM _) (dI ((nb a)+7) 8 oM))))))));refine lL e ac (aG (lL e ac (lK 11 5 (((nb a)+7)/8:Nat) 1 1 (.int .u8 0) nq 0 e (fun p w4 Y e=>?_))));have D:(zZ (((nb a)+7)/8:Nat) 0).length=(((nb a)+7)/8:Nat):=by simp
 refine lL e ac (ah (aa e ac (aZ ?_)));refine bH _ (CG.loop (fun F Γ S=>∃ (i:Nat)(l:List Nat)(h_:Hp),F=((nb a+7)/8)-i/\Γ=[(0,qS A ((lim a).length) c),(2,sZ),(3,nV (((nb a)+7)/8)),(4,qS (sB p) (((nb a)+7)/8:Nat) (((nb a)+7)/8:Nat)),(5,nV i)]/\SS w h S h_ [⟨p,5,(l).flatMap nq⟩] [] [S3 A (lim a)]/\i<=((nb a+7)/8)/\l.length=((nb a+7)/8)/\(∀ j,j<i->l.getD (((nb a+7)/8)-1-j) 0=a/256^j%256)) _ ⟨0,zZ (((nb a)+7)/8:Nat) 0,Y,rfl,rfl,e.to _ _,Mv _,D,(fun j L=>absurd L oM)⟩ ?_);rintro _ _ w7 ⟨i,l,O,Q,rfl,e,hi,z,M⟩;have V:=(Ld.lim a).get (i/4);refine cQ (aa e ax ?_);cases C:(decide ((i:Int)<((((nb a)+7)/8:Nat):Int)))
 .
  have zb:=oF C;refine lB 14 C (ag (CG.exit ?_))
  show CG _ _ _ _ _ _ _ _
  refine aa e ax (lN (kX ?_));have him:i=((nb a+7)/8):=by omega
  have I:l=fZ a ((nb a+7)/8):=rH z (fun j L=>M j oM);rw[I] at e
  obtain ⟨_,e,B,K,J⟩:=e.pub 0;replace e:=(e.to [] []).aS (SlO.of_flat (sz:=1) (f:=nq) (d:=0) (b:=p) (o:=0) (l:=fZ a ((nb a+7)/8)) (fun _=>rfl) B);exact e.ret [] (qS (sB p) (((nb a)+7)/8:Nat) (((nb a)+7)/8:Nat)) (⟨sB p,rfl,e.f.1⟩)
 have zb:=oT C;refine lB 14 C (ak (cK (cQ (kZ (kQ (lL e ax (bv 19 ((((nb a)+7)/8:Nat)-1) ((((nb a)+7)/8:Nat)-1) ?_)))))));refine lL e ac (bv 21 (((((nb a)+7)/8:Nat)-1:Nat)-(i:Nat)) (((((nb a)+7)/8:Nat)-1:Nat)-i) ?_);refine lL e ax (lV 24 (nV (i/4)) ?_ (hr:=aI (dD (t:=3) (u:=3) (x:=.tmp 23) (y:=.const (iV 4)) (k:=.i64) (a:=(i:Int)) (b:=(4:Int)) kR kR kR oM _) (dI i 4 oM)));refine lX 25 A ((lim a).length) c 1 (i/4:Nat) (i/4) ((e.f.1).ok oM) (lH 26 (mW ((lim a).getD (i/4) 0)) e ((e.f.1).el (i/4) oM) (lL e ac (lV 28 (nV (i%4)) ?_ (hr:=aI (fq (t:=3) (u:=3) (x:=.tmp 27) (y:=.const (iV 4)) (k:=.i64) (a:=(i:Int)) (b:=(4:Int)) kR kR kR oM _) (dk i 4)))));refine bv 29 (8*(i%4:Nat)) (8*(i%4)) (lV 30 (mV (8*(i%4))) ?_ (hr:=rU (((8*(i%4):Nat):Int)) kR (be oM oM)));refine lV 31 (mW ((lim a).getD (i/4) 0/2^(8*(i%4)))) ?_ (hr:=F8 (t:=139) (u:=140) (x:=.tmp 26) (y:=.tmp 30) (k:=.u32) (ky:=.u64) (a:=(lim a).getD (i/4) 0) (n:=8*(i%4)) kR kR kR (show 8*(i%4)<=32 by omega) _);refine lV 32 (.int .u8 ((lim a).getD (i/4) 0/2^(8*(i%4))%256:Nat)) ?_ (hr:=aI (n:=IntKind.wrap .u8 (((lim a).getD (i/4) 0/2^(8*(i%4)):Nat):Int)) kR (Dq _));refine lX 33 (sB p) (((nb a)+7)/8:Nat) (((nb a)+7)/8:Nat) 1 (((((nb a)+7)/8:Nat)-1:Nat)-i:Nat) (((((nb a)+7)/8:Nat)-1:Nat)-i:Nat) rfl (lW 0 l nq 1 (((((nb a)+7)/8:Nat)-1:Nat)-i:Nat) ((lim a).getD (i/4) 0/2^(8*(i%4))%256:Nat) e oM (fun _ e=>?_));have zc:((l).set (((((nb a)+7)/8:Nat)-1:Nat)-i:Nat) ((lim a).getD (i/4) 0/2^(8*(i%4))%256:Nat)).length=(((nb a)+7)/8:Nat):=by rw[Md];exact z
 replace e:=e.to [⟨p,5,((l).set (((((nb a)+7)/8:Nat)-1:Nat)-i:Nat) ((lim a).getD (i/4) 0/2^(8*(i%4))%256:Nat)).flatMap nq⟩] [];refine lN (kQ (lL e ac (bv 16 ((i:Nat)+1) (i+1) ?_)));refine lL e ac (lD ?_);intro a_ Z;refine ⟨_,_,?_,⟨i+1,(l).set (((((nb a)+7)/8:Nat)-1:Nat)-i:Nat) ((lim a).getD (i/4) 0/2^(8*(i%4))%256:Nat),O,rfl,rfl,e.to _ _,oM,zc,(gy z oM M (xM a i))⟩,Z.to _ kR⟩
 omega
theorem vI {n m:Nat}(h:n<256^m):∀ j,j<(m+3)/4->(zZ ((m+3)/4) 0).getD j 0=fN n (m-0) j:=fun j a=>by
 rw[Nat.sub_zero,wK h];simp[a]
theorem wg {l:List Nat}{n m i x:Nat}(hi:i<m)(d:l.length=(m+3)/4)(hv:∀ j,j<(m+3)/4->l.getD j 0=fN n (m-i) j)(a:x=fN n (m-1-i) ((m-1-i)/4)) :
  ∀ j,j<(m+3)/4->(l.set ((m-1-i)/4) x).getD j 0=fN n (m-(i+1)) j:=by
 intro j c;rw[show m-(i+1)=m-1-i by omega]
 by_cases e:j=(m-1-i)/4
 ·subst e
  have:(m-1-i)/4<l.length:=by omega
  simp[this,a]
 ·rw[oc,if_neg e,show m-1-i+1=m-i by omega,<-hv j c]
  simp only[LI]
  rw[ub (Ne.symm e)]
theorem ut {n k:Nat}:fN n (k+1) (k/4) ||| (n/256^k%256)*2^(8*(k%4))=fN n k (k/4):=by rw[oc n k (k/4),if_pos rfl]
theorem nL {b k:Nat}(a:b<256):b*2^(8*(k%4))<4294967296:=by
 have:k%4=0\/k%4=1\/k%4=2\/k%4=3:=by omega
 rcases this with e|e|e|e<;>rw[e]<;>omega
theorem xe {l:List Nat}{n m:Nat}(hn:n<256^m)(d:l.length=(m+3)/4)(hv:∀ j,j<(m+3)/4->l.getD j 0=fN n (m-m) j):ai 4294967296 l=n/\Ld l:=by
 constructor
 ·rw[<-kB]
  refine iT l n (fun j a=>by rw[hv j oM,Nat.sub_self,vh]) ?_;refine Nat.lt_of_lt_of_le hn ?_;rw[d,show (256:Nat)=2^8 by rfl,show (4294967296:Nat)=2^32 by rfl,<-Nat.pow_mul,<-Nat.pow_mul];exact Nat.pow_le_pow_right oM oM
 ·intro x c
  obtain ⟨j,a,rfl⟩:=List.mem_iff_getElem.1 c;have:=hv j oM;have e:l[j]=l.getD j 0:=by simp[a]
  rw[e,this];exact oQ _ _ _
theorem xv (n m:Nat)(A:Z9)(p:Nat)(hc:m<=p)(hm:m<=1099511627776)(hn:n<256^m)(w:World)(h:Hp)(g:G w h)(hA:SlO 1 nq 0 h A (fZ n m)):CR 139 #[.slice A m p] w h (fun v h1=>RN h1 v n):=by
 have e:=((sS g).aS hA);have Z:=j6 n m;refine go Tryz.func139 [(0,qS A m p)] rfl (aa e ac (aG (lL e [.c,.v (nV m)] (bv 8 ((m:Nat)+3) (m+3) ?_))));refine lV 9 (nV ((m+3)/4)) ?_ (hr:=aI (dD (t:=3) (u:=3) (x:=.tmp 8) (y:=.const (iV 4)) (k:=.i64) (a:=((m+3:Nat):Int)) (b:=(4:Int)) kR kR kR oM _) (dI (m+3) 4 oM));refine lK 10 139 ((m+3)/4) 1 4 (uW 0) az 0 e (fun C w2 W e=>?_);have L:(zZ ((m+3)/4) 0).length=((m+3)/4):=by simp
 refine lL e ac (ah (aa e ac (aZ ?_)));refine bH _ (CG.loop (fun K Γ Y=>∃ (i:Nat)(l:List Nat)(M:Hp),K=m-i/\Γ=[(0,qS A m p),(2,sZ),(3,qS (sB C) ((m+3)/4) ((m+3)/4)),(4,nV i)]/\SS w h Y M [⟨C,139,(l).flatMap az⟩] [] [fun M=>SlO 1 nq 0 M A (fZ n m)]/\i<=m/\l.length=(m+3)/4/\(∀ j,j<(m+3)/4->l.getD j 0=fN n (m-i) j)) _ ⟨0,zZ ((m+3)/4) 0,W,rfl,rfl,e.to _ _,Mv _,L,(vI hn)⟩ ?_);rintro _ _ w5 ⟨i,l,h6,X,rfl,e,hi,z,hv⟩;refine cQ (aa e [.c,.c,.v (nV m)] ?_);cases D:(decide ((i:Int)<(m:Int)))
 .
  have I:=oF D;refine lB 14 D (ag (CG.exit ?_))
  show CG _ _ _ _ _ _ _ _
  refine aa e ac ?_;have O:i=m:=by omega
  rw[O] at hv
  obtain ⟨S,Q⟩:=xe hn z hv;obtain ⟨h9,e,F,U,V⟩:=e.pub 0;replace e:=(e.to [] []).aS (SlO.of_flat (sz:=1) (f:=az) (d:=0) (b:=C) (o:=0) (l:=l) (fun _=>rfl) F);exact aq 43 e (jj (sB C) ((m+3)/4) l ((m+3)/4) z oM oM _ _ e.g e.f.1) (fun _ _ e=>lL e ac (ae e [] (qS (sB C) (tl l ((m+3)/4)) ((m+3)/4)) (RN.trim Q S z oM e.f.1)))
 have I:=oT D;refine lB 14 D (ak (cK (cQ (kZ (aa e [.c,.v (nV m)] (bv 19 ((m:Nat)-1) (m-1) ?_))))));refine lL e ac (bv 21 ((m-1:Nat)-(i:Nat)) ((m-1)-i) ?_);refine lL e ac (lN (cR 19 [] mixed e ar ?_));refine eV 0 22 (qS (sB C) ((m+3)/4) ((m+3)/4)) (eV 1 23 (nV ((m-1)-i)) (eV 2 24 (nV (((m-1)-i)/4)) ?_ (hv:=fun _=>aI (dD (t:=3) (u:=3) (x:=.tmp 23) (y:=.const (iV 4)) (k:=.i64) (a:=(((m-1)-i:Nat):Int)) (b:=(4:Int)) kR kR kR oM _) (dI ((m-1)-i) 4 oM))));refine eV 3 25 (qS (sB C) ((m+3)/4) ((m+3)/4)) (eV 4 26 (nV ((m-1)-i)) (eV 5 27 (nV (((m-1)-i)/4)) ?_ (hv:=fun _=>aI (dD (t:=3) (u:=3) (x:=.tmp 26) (y:=.const (iV 4)) (k:=.i64) (a:=(((m-1)-i:Nat):Int)) (b:=(4:Int)) kR kR kR oM _) (dI ((m-1)-i) 4 oM))));refine eX 6 28 (sB C) ((m+3)/4) ((m+3)/4) 1 (((m-1)-i)/4:Nat) (((m-1)-i)/4:Nat) rfl (eQ 7 29 0 l az 1 0 (((m-1)-i)/4:Nat) (mW ((l).getD (((m-1)-i)/4:Nat) 0)) e oM (eV 8 30 (qS A m p) (eV 9 31 (nV i) (eX 10 32 A m p 1 (i:Nat) i ((e.f.1).ok oM) ?_))));have B:=hv ((m-1-i)/4) oM;have H:l.getD ((m-1-i)/4) 0 ||| (n/256^(m-1-i)%256)*2^(8*((m-1-i)%4))=fN n (m-1-i) ((m-1-i)/4):=by rw[B,show m-i=m-1-i+1 by omega];exact ut
 have J:l.getD ((m-1-i)/4) 0<4294967296:=by rw[B];exact oQ _ _ _
 have B:=hv ((m-1-i)/4) oM;have H:l.getD ((m-1-i)/4) 0 ||| (n/256^(m-1-i)%256)*2^(8*((m-1-i)%4))=fN n (m-1-i) ((m-1-i)/4):=by rw[B,show m-i=m-1-i+1 by omega];exact ut
 have J:l.getD ((m-1-i)/4) 0<4294967296:=by rw[B];exact oQ _ _ _
 refine vw 11 33 (.int .u8 ((fZ n m).getD i 0:Nat)) e ((e.f.1).el i oM) (by rw[iz n m _ oM]) (eV 12 34 (mW (n/256^(m-1-i)%256)) ?_ (hv:=fun _=>rT (((n/256^(m-1-i)%256:Nat):Int)) kR (o4 oM oM)));refine eV 13 35 (nV ((m-1)-i)) (eV 14 36 (nV (((m-1)-i)%4)) ?_ (hv:=fun _=>aI (fq (t:=3) (u:=3) (x:=.tmp 35) (y:=.const (iV 4)) (k:=.i64) (a:=(((m-1)-i:Nat):Int)) (b:=(4:Int)) kR kR kR oM _) (dk ((m-1)-i) 4)));refine j4 15 37 (8*(((m-1)-i)%4:Nat)) (8*(((m-1)-i)%4:Nat)) (eV 16 38 (mV (8*(((m-1)-i)%4:Nat))) ?_ (hv:=fun _=>rU (((8*(((m-1)-i)%4:Nat):Nat):Int)) kR (be oM oM)));refine eV 17 39 (mW ((n/256^(m-1-i)%256)*2^(8*((m-1-i)%4)))) ?_ (hv:=fun _=>wV (t:=139) (u:=140) (x:=.tmp 34) (y:=.tmp 38) (ky:=.u64) (a:=n/256^(m-1-i)%256) (n:=8*((m-1-i)%4)) kR kR kR oM (nL oM) _);refine eV 18 40 (mW (fN n (m-1-i) ((m-1-i)/4))) ?_ (hv:=fun _=>aI (FX (t:=139) (u:=139) (x:=.tmp 29) (y:=.tmp 39) (a:=l.getD ((m-1-i)/4) 0) (b:=(n/256^(m-1-i)%256)*2^(8*((m-1-i)%4))) kR kR kR J (nL oM) _) (congrArg Int.ofNat H));refine bS e (fun _ zb e=>tX 19 41 (sB C) ((m+3)/4) ((m+3)/4) 1 (((m-1)-i)/4:Nat) (((m-1)-i)/4:Nat) rfl (tW 20 0 l az 1 (((m-1)-i)/4:Nat) (fN n (m-1-i) ((m-1-i)/4):Nat) e oM (fun _ e=>?_)));have za:((l).set (((m-1)-i)/4:Nat) (fN n (m-1-i) ((m-1-i)/4):Nat)).length=((m+3)/4):=by rw[Md];exact z
 replace e:=e.to [⟨C,139,((l).set (((m-1)-i)/4:Nat) (fN n (m-1-i) ((m-1-i)/4):Nat)).flatMap az⟩] [];refine tN (kQ (lL e ac (bv 16 ((i:Nat)+1) (i+1) ?_)));refine lL e ac (lD ?_);intro a_ ka;refine ⟨_,_,?_,⟨i+1,(l).set (((m-1)-i)/4:Nat) (fN n (m-1-i) ((m-1-i)/4):Nat),zb,rfl,rfl,e.to _ _,oM,za,(wg oM z hv rfl)⟩,ka.to _ kR⟩
 omega
def ku (q:Rat):Rat:=if q.num<0 then -q else q
theorem LQ.ln {q:Rat}(h:LQ 100000000 q):(lim (ab q.num)).length<=300000000:=eb (uK _) (by have:=h.1;omega)
theorem LQ.ld {q:Rat}(h:LQ 100000000 q):(lim q.den).length<=300000000:=eb (uK _) (by have:=h.2;omega)
theorem nl {k:Nat}{q:Rat}(h:LQ k q)(hk:k<=100000000:=by omega):(lim (ab q.num)).length<=300000000:=LQ.ln (h.mono hk)
theorem nD {k:Nat}{q:Rat}(h:LQ k q)(hk:k<=100000000:=by omega):(lim q.den).length<=300000000:=LQ.ld (h.mono hk)
theorem LQ.sub {k l:Nat}{a b:Rat}(ha:LQ k a)(c:LQ l b):LQ (k+l+1) (a-b):=by rw[Nu];exact ha.add c.neg
theorem LQ.inv {k:Nat}{q:Rat}(h:LQ k q):LQ k q⁻¹:=by
 by_cases hz:q.num=0
 ·have:q=0:=by rw[<-Nv];exact hz
  subst this;rw[Rat.inv_zero];exact h
 ·obtain ⟨h1,a⟩:=uB q hz
  exact ⟨by rw[h1,fu];exact h.2,by rw[a];exact h.1⟩
theorem LQ.div {k l:Nat}{a b:Rat}(ha:LQ k a)(c:LQ l b):LQ (k+l) (a/b):=by rw[Rat.div_def];exact ha.mul c.inv
theorem LQ.int {z:Int}(h0 : -9223372036854775808<=z)(h1:z<=9223372036854775807):LQ 1 (z:Rat):=⟨by rw[Nd];exact da.2 (by unfold ab;omega),by rw[Nf];exact da.2 oM⟩
theorem LQ.lit {z:Int}(h : -9223372036854775808<=z/\z<=9223372036854775807):LQ 1 (z:Rat):=LQ.int h.1 h.2
def Hu (a b:List Rat):Nat->Rat
  | 0=>0
  | k+1=>Hu a b k+a.getD k 0*b.getD k 0
theorem Jq {h:Hp}{v:Value}{a:Rat}(hv:RP h v (-a.num) a.den):RQ h v (-a):=by unfold RQ;rw[Ng,Nh];exact hv
theorem Kr (a:Rat)(i:Z9)(c1:Nat)(e:Z9)(d:Nat)(y:(lim (ab a.num)).length<=c1)(x:(lim a.den).length<=d)(B:(lim (ab a.num)).length<=300000000)(D:(lim a.den).length<=300000000)(w:World)(h:Hp)(g:G w h)(l:S3 i (lim (ab a.num)) h)(p:S3 e (lim a.den) h):CR 157 #[rG a i c1 e d] w h (fun v h1=>RQ h1 v (-a)):=by
 have c:=(((sS g).aS l).aS p);refine go Tryz.func157 [(0,rG a i c1 e d)] rfl (aD (lA 1 28 (iS a i c1 e d) c (fun z w2 H c=>lA 2 28 ca c (fun I J F c=>ah (cR 6 [] mixed c ar ?_)))));refine eV 0 3 (pB z) (eO 1 4 [(1,0,2)] (.agg #[.bool (af a.num),qS i ((lim (ab a.num)).length) c1]) c (eV 3 6 (qP z 2) (eO 4 7 [(1,2,1)] (qS e ((lim a.den).length) d) c (eC 2 5 c (fun _ _ c=>uZ a.num i c1 y oM _ _ c.g c.f.2.1) ?_))));rintro _ _ _ _ _ c ⟨j,u,rfl,o,C⟩;replace c:=c.aS C;exact eV 5 8 (.agg #[.bool (af (-a.num)),qS j ((lim (ab (-a.num))).length) u,qS e ((lim a.den).length) d]) (bS c (fun _ _ c=>tP 6 0 0 ([.bool (af (-a.num)),qS j ((lim (ab (-a.num))).length) u,qS e ((lim a.den).length) d]) c (fun _ c=>tN (kX (c.ret [(0,0,3)] (.agg #[.bool (af (-a.num)),qS j ((lim (ab (-a.num))).length) u,qS e ((lim a.den).length) d]) (Jq ⟨_,_,_,_,rfl,o,x,c.f.1,c.f.2.1⟩))))))
theorem J4 (a:Rat)(l:Z9)(c1:Nat)(j:Z9)(i:Nat)(I:(lim (ab a.num)).length<=c1)(H:(lim a.den).length<=i)(C:(lim (ab a.num)).length<=300000000)(J:(lim a.den).length<=300000000)(b:Rat)(o:Z9)(c2:Nat)(e:Z9)(d:Nat)(z:(lim (ab b.num)).length<=c2)(D:(lim b.den).length<=d)(p:(lim (ab b.num)).length<=300000000)(u:(lim b.den).length<=300000000)(w:World)(h:Hp)(g:G w h)(B:S3 l (lim (ab a.num)) h)(F:S3 j (lim a.den) h)(y:S3 o (lim (ab b.num)) h)(x:S3 e (lim b.den) h):CR 128 #[rG a l c1 j i,rG b o c2 e d] w h (fun v h1=>RQ h1 v (a-b)):=by
 have c:=(((((sS g).aS B).aS F).aS y).aS x);refine go Tryz.func128 [(0,rG a l c1 j i),(1,rG b o c2 e d)] rfl (aD (lA 2 28 (iS a l c1 j i) c (fun b1 w2 h3 c=>lA 3 28 (iS b o c2 e d) c (fun b4 w5 h6 c=>lA 4 28 ca c (fun b7 w8 h9 c=>ah (cR 4 [] mixed c ar ?_))))));refine eO 0 5 [(2,0,3)] (rG a l c1 j i) c (eO 1 6 [(1,0,3)] (rG b o c2 e d) c (eC 2 7 c (fun _ _ c=>Kr b o c2 e d z D p u _ _ c.g c.f.2.1 c.f.1) ?_));rintro _ _ _ _ _ c ⟨V,zo,Q,U,rfl,ze,X,zg,S⟩;replace c:=c.aP zg S;refine eC 3 8 c (fun _ _ c=>GD a l c1 j i I H C J (-b) V zo Q U ze X (by rw[Ng];unfold ab;rw[Nk];exact p) (by rw[Nh];exact u) _ _ c.g c.f.q.2.1 c.f.q.1 c.f.2.1 c.f.1) ?_;rintro _ _ _ _ _ c ⟨L,M,K,O,rfl,zj,W,Z,Y⟩;replace c:=c.aP Z Y;exact bS c (fun _ _ c=>tP 4 0 0 (iS (a+(-b)) L M K O) c (fun _ c=>tN (kX (c.ret [(0,0,3)] (rG (a+(-b)) L M K O) (by rw[Nu];exact ⟨_,_,_,_,rfl,zj,W,c.f.2.1,c.f.1⟩)))))
theorem mN (a:Nat)(A:Z9)(c:Nat)(l:(lim a).length<=c)(b:Nat)(D:Z9)(d:Nat)(p:(lim b).length<=d)(e:(lim a).length<=3000000000)(x:(lim b).length<=1)(u:0<b)(w:World)(h:Hp)(g:G w h)(j:S3 A (lim a) h)(i:S3 D (lim b) h):CR 138 #[.slice A (lim a).length c,.slice D (lim b).length d] w h (fun v h1=>∃ f o,v=.tuple #[f,o]/\RN h1 f (a/b)/\RN h1 o (a%b)):=by
 have y:=bR.2 u
 rcases cD a b with h1|h1
 ·exact n9 a A c l b D d p e oM h1 w h g j i
 ·exact m7 a A c l b D d p e oM h1 oM w h g j i
theorem wQ (a:Nat)(A:Z9)(c:Nat)(Y:(lim a).length<=c)(b:Nat)(D:Z9)(d:Nat)(hd:(lim b).length<=d)(B:(lim a).length<=3000000000)(H:(lim b).length<=1)(w:World)(h:Hp)(g:G w h)(X:S3 A (lim a) h)(V:S3 D (lim b) h):CR 137 #[.slice A ((lim a).length) c,.slice D ((lim b).length) d] w h (fun v h1=>RN h1 v (My a b)):=by
 have e:=(((sS g).aS X).aS V);refine go Tryz.func137 [(0,qS A ((lim a).length) c),(1,qS D ((lim b).length) d)] rfl (aa e ac (ah (kZ ?_)));replace e:=e.aS e.f.1;replace e:=e.aS e.f.r.1;refine bH _ (CG.loop (fun z Γ W=>∃ (x:Nat)(j:Z9)(c1:Nat)(y:Nat)(u:Z9)(c2:Nat)(F:Hp),z=y/\Γ=[(4,sZ),(0,qS j ((lim x).length) c1),(1,qS u ((lim y).length) c2)]/\SS w h W F [] [] [S3 j (lim x),S3 u (lim y),S3 D (lim b),S3 A (lim a)]/\(lim x).length<=c1/\(lim y).length<=c2/\(lim x).length<=3000000000/\(lim y).length<=1/\My x y=My a b) _ ⟨a,A,c,b,D,d,h,rfl,rfl,e.to _ _,Y,hd,B,H,rfl⟩ ?_);rintro _ _ w1 ⟨x,j,c1,y,u,c2,h2,Q,rfl,e,p,o,hl1,U,L⟩;refine cQ (aa e [.c,.v (nV ((lim y).length))] ?_);cases i:(decide ((0:Int)<(((lim y).length:Nat):Int)))
 .
  have l:=oF i;refine lB 9 i (ag (CG.exit ?_))
  show CG _ _ _ _ _ _ _ _
  refine aa e ax (lN (kX ?_));have C:y=0:=Nat.eq_zero_of_not_pos (fun F=>by have:=bR.2 F;omega);exact e.ret [] (qS j ((lim x).length) c1) (by rw[<-L,C,MT];exact ⟨j,c1,rfl,p,e.f.1⟩)
 have l:=oT i;refine lB 9 i (ak (cK (kZ (aa e ax (lC 13 e (mN x j c1 p y u c2 o oM oM (bR.1 oM) _ _ e.g e.f.1 e.f.2.1) ?_)))));rintro _ w5 O e ⟨_,_,rfl,⟨S,cq,rfl,Z,hq⟩,⟨K,J,rfl,I,hr⟩⟩;replace e:=e.aS hr;have hmd:=z6 x (bR.1 (show 0<(lim y).length by omega));have M:=dE (show x%y<=y by omega);refine lL e [.c,.v (qS S (lim (x/y)).length cq),.v (qS K ((lim (x%y)).length) J),.c,.c] (aG (lL e ax (lN (kQ (lL e ax (lD ?_))))));intro a_ ka;replace e:=((e.tl.tl.tl.aS e.f.1).aS e.f.r.1);refine ⟨_,_,?_,⟨y,u,c2,x%y,K,J,O,rfl,rfl,e.to _ _,o,I,oM,oM,(by rw[jn];exact L)⟩,ka.to _ kR⟩
 omega
theorem vP (a:Nat)(A:Z9)(c:Nat)(l:(lim a).length<=c)(b:Nat)(D:Z9)(d:Nat)(p:(lim b).length<=d)(q:Nat)(o:q=My a b)(e:(lim a).length<=3000000000)(f:(lim b).length<=1)(w:World)(h:Hp)(g:G w h)(j:S3 A (lim a) h)(i:S3 D (lim b) h):CR 137 #[.slice A (lim a).length c,.slice D (lim b).length d] w h (fun v h1=>RN h1 v q):=by
 subst o;exact wQ a A c l b D d p e f w h g j i
theorem rY {z:Int}(h0 : -4294967296<z)(h1:z<4294967296):(lim (ab z)).length<=1:=eo (by unfold ab;omega)
theorem G4 (x:Int)(A:Z9)(c:Nat)(O:(lim (ab x)).length<=c)(X:(lim (ab x)).length<=2000000000)(y:Int)(D:Z9)(d:Nat)(K:(lim (ab y)).length<=d)(C:(lim (ab y)).length<=1)(I:y≠0)(w:World)(h:Hp)(g:G w h)(hA:S3 A (lim (ab x)) h)(W:S3 D (lim (ab y)) h):CR 103 #[.agg #[.bool (af x),.slice A ((lim (ab x)).length) c],.agg #[.bool (af y),.slice D ((lim (ab y)).length) d]] w h (fun v h1=>RQ h1 v (mkR x y)):=by
 have a:=(((sS g).aS hA).aS W);obtain ⟨p,l,j⟩:=nE x y I;obtain ⟨q,hq⟩:∃ q,q=My (ab x) (ab y):=⟨_,rfl⟩;rw[<-hq] at p l j
 have hql:(lim q).length<=1:=gn (by rw[hq];exact Ni _ (by unfold ab;omega)) C;refine go Tryz.func103 [(0,.agg #[.bool (af x),qS A ((lim (ab x)).length) c]),(1,.agg #[.bool (af y),qS D ((lim (ab y)).length) d])] rfl (aD (lA 2 26 ([.bool (af x),qS A ((lim (ab x)).length) c]) a (fun B w2 h3 a=>lA 3 26 ([.bool (af y),qS D ((lim (ab y)).length) d]) a (fun F w5 h6 a=>lA 4 28 ca a (fun b7 w8 h9 a=>aG (lL a [.v (qP B 1),.o (qS A ((lim (ab x)).length) c) 2 1 1,.v (qP F 1),.o (qS D ((lim (ab y)).length) d) 1 1 1] (lC 14 a (vP (ab x) A c O (ab y) D d K q hq oM oM _ _ a.g a.f.2.1 a.f.1) ?_)))))));rintro _ _ _ a ⟨M,U,rfl,Q,zk⟩;replace a:=a.aS zk;refine lL a ac (aG (lL a [.v (qP B 1),.o (qS A ((lim (ab x)).length) c) 2 1 1,.c] (lC 19 a (mN (ab x) A c O q M U Q oM oM j _ _ a.g a.f.r.1 a.f.1) ?_)));rintro _ _ _ a ⟨_,e,rfl,⟨L,S,rfl,zl,zm⟩,-⟩;replace a:=a.aS zm;refine lL a [.c,.v (qS L ((lim ((ab x)/q)).length) S),.v e,.c,.c] (aG (lL a [.v (qP F 1),.o (qS D ((lim (ab y)).length) d) 1 1 1,.c] (lC 26 a (mN (ab y) D d K q M U Q oM oM j _ _ a.g a.f.r.1 a.f.2.1) ?_)));rintro _ _ _ a ⟨_,i,rfl,⟨u,z,rfl,Z,zo⟩,-⟩;replace a:=a.aS zo;refine lL a [.c,.v (qS u ((lim ((ab y)/q)).length) z),.v i,.c,.c] (aG (lL a [.v (pB B),.o (.bool (af x)) 2 0 1,.v (pB F),.o (.bool (af y)) 1 0 1,.v (.bool ((af x) != (af y))),.c] (lC 35 a (rI ((af x) != (af y)) ((ab x)/q) L S zl _ _ a.g a.f.2.1) ?_)));rintro _ _ _ a ⟨J,H,rfl,V,Y⟩;replace a:=a.aS Y;exact lL a [.c,.v (.agg #[.bool (af (bA ((af x) != (af y)) ((ab x)/q))),qS J ((lim (ab (bA ((af x) != (af y)) ((ab x)/q)))).length) H,qS u ((lim ((ab y)/q)).length) z])] (lP 0 0 ([.bool (af (bA ((af x) != (af y)) ((ab x)/q))),qS J ((lim (ab (bA ((af x) != (af y)) ((ab x)/q)))).length) H,qS u ((lim ((ab y)/q)).length) z]) a (fun _ a=>ae a [(0,0,3)] (.agg #[.bool (af (bA ((af x) != (af y)) ((ab x)/q))),qS J ((lim (ab (bA ((af x) != (af y)) ((ab x)/q)))).length) H,qS u ((lim ((ab y)/q)).length) z]) (by unfold RQ;rw[p,l];exact ⟨_,_,_,_,rfl,V,Z,a.f.1,a.f.2.1⟩)))
theorem BA (x y:Int)(d:y≠0)(h0 : -9223372036854775808<=x)(h1:x<9223372036854775808)(z : -4294967296<y)(i:y<4294967296)(w:World)(h:Hp)(g:G w h):CR 62 #[iV x,iV y] w h (fun v h1=>RQ h1 v (mkR x y)):=by
 have a:=sS g;have F:=vV h0 h1;have I:=rY z i;refine go Tryz.func62 [(0,iV x),(1,iV y)] rfl (aD (lA 4 28 ca a (fun Q w2 i a=>aG (lL a ac (lC 6 a (sL x oM oM _ _ a.g) ?_)))));rintro _ U S a ⟨O,M,rfl,c,e⟩;replace a:=a.aS e;refine lL a ac (lC 8 a (sL y oM oM _ _ a.g) ?_);rintro _ _ _ a ⟨H,D,rfl,J,C⟩;replace a:=a.aS C;refine lC 9 a (G4 x O M c oM y H D J oM d _ _ a.g a.f.2.1 a.f.1) ?_;rintro _ _ _ a ⟨l,o,j,p,rfl,L,u,K,B⟩;replace a:=a.aP K B;exact lP 0 0 (iS (mkR x y) l o j p) a (fun _ a=>ae a [(0,0,3)] (rG (mkR x y) l o j p) (by skip;exact ⟨_,_,_,_,rfl,L,u,a.f.2.1,a.f.1⟩))
theorem Jw (a:Nat)(A:Z9)(c:Nat)(l:(lim a).length<=c)(x:(lim a).length<=300000000)(w:World)(h:Hp)(g:G w h)(i:S3 A (lim a) h):CV 47 #[.slice A ((lim a).length) c] w h (nv a):=by
 have d:=((sS g).aS i);have j:=sV a;refine go Tryz.func47 [(0,qS A ((lim a).length) c)] rfl (aD (lA 2 45 ([uV 0,eS]) d (fun p w2 u d=>aG (lL d ac (lC 4 d (vk a A c l oM _ _ d.g d.f.1) ?_)))));rintro _ C y d ⟨o,rfl,e⟩;replace d:=d.aS e;exact aq 5 d (wJ a ((nb a+7)/8) o ((nb a+7)/8) (nR _) oM (B1 a) _ _ d.g d.f.1) (fun B z d=>lP 0 0 (nc a) d (fun _ d=>ae d [(0,0,2)] (nv a) rfl))
theorem J1 (z:Int)(A:Z9)(c:Nat)(l:(lim (ab z)).length<=c)(e:(lim (ab z)).length<=300000000)(w:World)(h:Hp)(g:G w h)(i:S3 A (lim (ab z)) h):CV 45 #[.agg #[.bool (af z),.slice A ((lim (ab z)).length) c]] w h (iv z):=by
 have a:=((sS g).aS i);have j:=EC (ab z);refine go Tryz.func45 [(0,.agg #[.bool (af z),qS A ((lim (ab z)).length) c])] rfl (aD (lA 1 26 ([.bool (af z),qS A ((lim (ab z)).length) c]) a (fun d w2 u a=>lA 2 47 ([qF,uV 0,eS]) a (fun x B p a=>ah (cR 6 [] mixed a ar ?_)))));exact eV 0 3 (pB d) (eO 1 4 [(1,0,1)] (.bool (af z)) a (eV 2 5 (qP d 1) (eO 3 6 [(1,1,1)] (qS A ((lim (ab z)).length) c) a (au 4 7 a (fun _ _ a=>Jw (ab z) A c l (by first|exact e|exact LQ.ld hq|omega) _ _ a.g a.f.1) (fun y o a=>au 5 8 a (fun _ _ a=>gf (af z) (ab z) oM _ _ a.g) (fun C _ a=>bS a (fun _ _ a=>tP 6 0 0 (ic (bA (af z) (ab z))) a (fun _ a=>tN (kX (a.ret [(0,0,3)] (iv (bA (af z) (ab z))) (congrArg iv (m9 z))))))))))))
theorem Cb (q:Rat):mkR q.num ((q.den:Nat):Int)=q:=by
 unfold mkR;rw[if_neg oM];show mkRat q.num q.den=q;rw[Nt]
theorem K3 (q:Rat)(e:Z9)(c1:Nat)(d:Z9)(c:Nat)(x:(lim (ab q.num)).length<=c1)(u:(lim q.den).length<=c)(i:LQ 100000000 q)(w:World)(h:Hp)(g:G w h)(j:S3 e (lim (ab q.num)) h)(p:S3 d (lim q.den) h)(B:Tab h):CV 23 #[rG q e c1 d c] w h (qv q):=by
 have a:=((((sS g).aS j).aS p).add (K:=fun C=>Tab C) B);refine go Tryz.func23 [(0,rG q e c1 d c)] rfl (aD (lA 1 28 (iS q e c1 d c) a (fun y w2 H a=>lA 2 49 a6 a (fun I L F a=>ah ?_))));have l:=a;exact cR 12 [⟨11,3,.cells (MR [qF,uV 0,eS,uV 0,eS]) 49 (0,0)⟩] mixed a (bO (fD kR (fun _ _=>by kernel_rfl)) ar) (eV 0 6 (pB y) (eO 1 7 [(1,0,2)] (.agg #[.bool (af q.num),qS e ((lim (ab q.num)).length) c1]) a (eV 3 9 (qP y 2) (eO 4 10 [(1,2,1)] (qS d ((lim q.den).length) c) a (au 2 8 a (fun _ _ a=>J1 q.num e c1 x (LQ.ln i) _ _ a.g a.f.r.1) (fun J D a=>au 5 11 a (fun _ _ a=>Jw q.den d c u (by first|exact hl|exact LQ.ld i|omega) _ _ a.g a.f.2.1) (fun M _ a=>au 6 12 a (fun _ _ a=>eW q.den _ _ a.g) (fun _ _ a=>au 7 13 a (fun _ _ a=>JM q.num (q.den:Int) (by have:=q.den_pos;omega) (by have:=i.1;omega) (by show (wds q.den).length<=_;have:=i.2;omega) _ _ a.g a.f.1) (fun _ _ a=>eV 8 5 (.tuple #[qv (mkR q.num (q.den:Int)),qT]) (eV 9 14 (qv (mkR q.num (q.den:Int))) (eV 10 15 qT (iO [] l a 49 [qF,uV 0,eS,uV 0,eS] (fun _ _ z a=>tP 12 0 0 (qc (mkR q.num (q.den:Int))) a (fun _ a=>tV 13 4 qT (rW (lL a [.o (qv (mkR q.num (q.den:Int))) 0 0 5] (lP 1 0 (qc (mkR q.num (q.den:Int))) a (fun _ a=>ae a [(1,0,5)] (qv (mkR q.num (q.den:Int))) (congrArg qv (Cb q))))))))))))))))))))
theorem Jc (v:Value)(q:Rat)(i:LQ 100000000 q)(w:World)(h:Hp)(g:G w h)(hv:RQ h v q)(j:Tab h):CV 23 #[v] w h (qv q):=by
 obtain ⟨A,c,B,d,rfl,h1,a,e,f⟩:=hv;exact K3 q A c B d h1 a i w h g e f j
theorem tc (n:Nat)(y:(wds n).length<=100000000)(w:World)(h:Hp)(g:G w h):CR 106 #[nv n] w h (fun v h1=>RN h1 v n):=by
 have a:=sS g;have d:=mU n;refine go Tryz.func106 [(0,nv n)] rfl (aD (lA 1 45 (nc n) a (fun u w2 x a=>lL a ac (aG (lL a [.o (nv n) 0 0 2] (lC 4 a (wF n oM _ _ a.g) ?_))))));rintro _ B z a ⟨p,rfl,c⟩;replace a:=a.aS c;refine lC 5 a (xv n ((nb n+7)/8) p ((nb n+7)/8) (nR _) oM (B1 n) _ _ a.g a.f.1) ?_;rintro _ _ _ a ⟨j,l,rfl,e,i⟩;replace a:=a.aS i;exact lL a ac (ae a [] (qS j ((lim n).length) l) (⟨_,_,rfl,e,a.f.1⟩))
theorem CQ (z:Int):bA (decide (z.sign<(0:Int))) (ab z)=z:=by
 rcases MX z 0 with h|h|h
 ·rw[MY h];unfold bA ab;simp;omega
 ·subst h;rfl
 ·rw[MZ h];unfold bA ab;simp;omega
theorem Cy (z:Int)(C:(wds (ab z)).length<=100000000)(w:World)(h:Hp)(g:G w h):CR 104 #[iv z] w h (fun v h1=>RI h1 v z):=by
 have a:=sS g;refine go Tryz.func104 [(0,iv z)] rfl (aD (lA 1 47 (ic z) a (fun y w2 B a=>lA 2 26 ([qF,sZ]) a (fun D H x a=>ah (cR 7 [] mixed a ar ?_)))));refine eO 0 3 [(1,0,3)] (iv z) a (eO 3 6 [(1,0,3)] (iv z) a (au 1 4 a (fun _ _ a=>mi z oM _ _ a.g) (fun F u a=>eV 2 5 (.bool (decide ((z.sign:Int)<(0:Int)))) (au 4 7 a (fun _ _ a=>wG z _ _ a.g) (fun I _ a=>eC 5 8 a (fun _ _ a=>tc (ab z) (by first|exact hq.2|omega) _ _ a.g) ?_)))));rintro _ _ _ _ _ a ⟨o,e,rfl,j,p⟩;replace a:=a.aS p;refine eC 6 9 a (fun _ _ a=>rI (decide ((z.sign:Int)<(0:Int))) (ab z) o e j _ _ a.g a.f.1) ?_;rintro _ _ _ _ _ a ⟨c,d,rfl,l,i⟩;replace a:=a.aS i;exact bS a (fun _ _ a=>tP 7 0 0 ([.bool (af (bA (decide ((z.sign:Int)<(0:Int))) (ab z))),qS c ((lim (ab (bA (decide ((z.sign:Int)<(0:Int))) (ab z)))).length) d]) a (fun _ a=>tN (kX (a.ret [(0,0,2)] (.agg #[.bool (af (bA (decide ((z.sign:Int)<(0:Int))) (ab z))),qS c ((lim (ab (bA (decide ((z.sign:Int)<(0:Int))) (ab z)))).length) d]) (by rw[CQ] at *;exact ⟨_,_,rfl,l,a.f.1⟩)))))
theorem KE (q:Rat)(d:LQ 100000000 q)(w:World)(h:Hp)(g:G w h):CR 63 #[qv q] w h (fun v h1=>RQ h1 v q):=by
 have a:=sS g;refine go Tryz.func63 [(0,qv q)] rfl (aD (lA 1 49 (qc q) a (fun z w2 B a=>lA 2 28 ca a (fun C F y a=>ah (cR 7 [] mixed a ar ?_)))));refine eO 0 3 [(1,0,5)] (qv q) a (eO 3 6 [(1,0,5)] (qv q) a (au 1 4 a (fun _ _ a=>Kt q _ _ a.g) (fun D x a=>eC 2 5 a (fun _ _ a=>Cy q.num d.1 _ _ a.g) ?_)));rintro _ _ _ _ _ a ⟨c,e,rfl,u,o⟩;replace a:=a.aS o;refine au 4 7 a (fun _ _ a=>fL q d _ _ a.g) (fun _ _ a=>eC 5 8 a (fun _ _ a=>tc q.den (by first|exact d.2|omega) _ _ a.g) ?_);rintro _ _ _ _ _ a ⟨j,i,rfl,l,p⟩;replace a:=a.aS p;exact eV 6 9 (rG q c e j i) (bS a (fun _ _ a=>tP 7 0 0 (iS q c e j i) a (fun _ a=>tN (kX (a.ret [(0,0,3)] (rG q c e j i) (⟨_,_,_,_,rfl,u,l,a.f.2.1,a.f.1⟩))))))
def gK (a b:Rat):Bool:=decide (a=b)
theorem CW {a b:Rat}(h1:bV (ab a.num) (ab b.num)=0)(e:af a.num=af b.num)(c:bV a.den b.den=0):true=gK a b:=by
 have d:ab a.num=ab b.num:=by unfold bV at h1;split at h1;omega;split at h1;omega;omega
 have f:a.den=b.den:=by unfold bV at c;split at c;omega;split at c;omega;omega
 have h:a.num=b.num:=by rw[<-m9 a.num,<-m9 b.num,d,e]
 symm
 exact decide_eq_true (Rat.ext h f)
theorem nZ (a:Nat):bV a a=0:=by simp[bV]
theorem oN {a b:Rat}(h:bV (ab a.num) (ab b.num)≠0\/af a.num≠af b.num\/bV a.den b.den≠0):false=gK a b:=by
 symm
 refine decide_eq_false ?_;rintro rfl
 rcases h with h|h|h
 ·exact h (nZ _)
 ·exact h rfl
 ·exact h (nZ _)
theorem EY (q r:Rat)(C:LQ 100000000 q)(hr:LQ 100000000 r)(j:Z9)(c1:Nat)(e:Z9)(d:Nat)(J:(lim (ab r.num)).length<=c1)(I:(lim r.den).length<=d)(w:World)(h:Hp)(g:G w h)(B:S3 j (lim (ab r.num)) h)(F:S3 e (lim r.den) h):CV 31 #[qv q,rG r j c1 e d] w h (.bool (gK q r)):=by
 have a:=(((sS g).aS B).aS F);have l:0<(lim r.den).length:=bR.2 r.den_pos;have hq1:=LQ.ln C;have U:=LQ.ld C;have Z:=LQ.ln hr;have Q:=LQ.ld hr;refine go Tryz.func31 [(0,qv q),(1,rG r j c1 e d)] rfl (aD (lA 2 49 (qc q) a (fun b1 w2 h3 a=>lA 3 28 (iS r j c1 e d) a (fun i w5 h6 a=>lL a ac (aG (lL a [.o (qv q) 1 0 5] (lC 7 a (KE q C _ _ a.g) ?_)))))));rintro _ _ _ a ⟨y,H,L,K,rfl,D,V,X,W⟩;replace a:=a.aP X W;refine lA 5 28 ca a (fun p _ _ a=>lP 0 0 (iS q y H L K) a (fun _ a=>ah (aa a [.v (qP i 2),.o (qS e ((lim r.den).length) d) 1 2 1,.v (nV ((lim r.den).length))] ?_)));have M:((((lim r.den).length:Nat):Int) == (0:Int))=false:=(by simp;exact fun h=>Nat.lt_irrefl 0 (by rw[h] at l;exact l));have z:=aj M;refine lB 11 M (ag (cK (aa a [.v (pB p),.v (qP p 1),.o (qS y ((lim (ab q.num)).length) H) 0 1 1,.v (pB i),.v (qP i 1),.o (qS j ((lim (ab r.num)).length) c1) 1 1 1] (aq 19 a (gZ (ab q.num) y H D (ab r.num) j c1 J oM oM _ _ a.g a.f.2.1 a.f.r.2.1) (fun _ _ a=>?_)))));cases u:((bV (ab q.num) (ab r.num):Int) == (0:Int))
 .
  have S:=aj u;refine lB 20 u (lL a ac (lG 22 ?_));refine lG 23 (lG 24 (lG 25 (lG 26 (lG 27 (lG 28 (lL a [.v qF,.c] (lG 31 ?_)))))));exact lG 32 (lG 33 (lG 34 (lG 35 (lG 36 (lL a [.v qF,.c] (ae a [] qF (congrArg Value.bool (oN (by first|(left;assumption)|(right;right;assumption)|(right;left;exact beq_eq_false_iff_ne.1 ‹_›))))))))))
 have S:=eq_of_beq u;refine lB 20 u (lL a [.c,.v (pB p),.v (pB p),.o (.bool (af q.num)) 0 0 1,.v (pB i),.v (pB i),.o (.bool (af r.num)) 1 0 1] ?_);cases O:((af q.num) == (af r.num))
 .
  refine lB 28 O (lL a [.v qF,.c] (lG 31 ?_));exact lG 32 (lG 33 (lG 34 (lG 35 (lG 36 (lL a [.v qF,.c] (ae a [] qF (congrArg Value.bool (oN (by first|(left;assumption)|(right;right;assumption)|(right;left;exact beq_eq_false_iff_ne.1 ‹_›))))))))))
 refine lB 28 O (lL a [.v qT,.c,.v (qP p 2),.o (qS L ((lim q.den).length) K) 0 2 1,.v (qP i 2),.o (qS e ((lim r.den).length) d) 1 2 1] (aq 35 a (gZ q.den L K V r.den e d I oM oM _ _ a.g a.f.1 a.f.r.1) (fun _ _ a=>?_)));cases x:((bV q.den r.den:Int) == (0:Int))
 .
  have Y:=aj x;exact lB 36 x (lL a [.v qF,.c] (ae a [] qF (congrArg Value.bool (oN (by first|(left;assumption)|(right;right;assumption)|(right;left;exact beq_eq_false_iff_ne.1 ‹_›))))))
 have Y:=eq_of_beq x;exact lB 36 x (lL a [.v qT,.c] (ae a [] qT (congrArg Value.bool (CW aM (eq_of_beq ‹_›) aM))))
theorem LQ.mkR {n d:Int}(l:d≠0)(h0 : -9223372036854775808<=n)(h1:n<=9223372036854775807)(h : -9223372036854775808<=d)(i:d<=9223372036854775807):LQ 1 (mkR n d):=by
 unfold Go.Proofs.YtlidpooijdogdaaGreatDoor.mkR
 have c:0<ab d:=by unfold ab;omega
 obtain ⟨f,e,a,j⟩:=iB (if d<0 then -n else n) (ab d) c;refine ⟨?_,?_⟩
 ·rw[f];refine da.2 (Ft (cc _ _ a) ?_)
  unfold ab;split<;>omega
 ·rw[e];exact da.2 (Ft (F2 _ _) (by unfold ab;omega))
theorem nF (q:Rat)(z e:Int)(p:LQ 100000000 q)(D:e≠0)(d : -9223372036854775808<=z)(C:z<9223372036854775808)(j : -4294967296<e)(B:e<4294967296)(w:World)(h:Hp)(g:G w h):CV 30 #[qv q,iV z,iV e] w h (.bool (gK q (mkR z e))):=by
 have a:=sS g;have l:LQ 100000000 (mkR z e):=(LQ.mkR D d oM oM oM).mono oM;refine go Tryz.func30 [(0,qv q),(1,iV z),(2,iV e)] rfl (aD (lA 3 49 (qc q) a (fun I w2 J a=>lL a ac (ah (cR 5 [] mixed a ar ?_)))));refine eO 0 7 [(0,0,5)] (qv q) a (eV 1 8 (iV z) (eV 2 9 (iV e) (eC 3 10 a (fun _ _ a=>BA z e oM oM oM oM oM _ _ a.g) ?_)));rintro _ _ _ _ _ a ⟨H,o,y,F,rfl,c,u,i,x⟩;replace a:=a.aP i x;exact au 4 11 a (fun _ _ a=>EY q (mkR z e) p l H o y F c u _ _ a.g a.f.2.1 a.f.1) (fun _ _ a=>bS a (fun _ _ a=>tV 5 6 (.bool (gK q (mkR z e))) (tN (kX (a.ret [] (.bool (gK q (mkR z e))) rfl)))))
def aN (n:Int)(m:Nat):Nat:=(n%(m:Int)).toNat
theorem ct (n:Int)(m:Nat)(h:0<m):aN n m<m:=by
 unfold aN
 have h1:=Nx n (show (m:Int)≠0 by omega);have a:=Ny n (show (0:Int)<m by omega)
 omega
theorem pN (n:Int)(m:Nat)(h:0<m):((aN n m:Nat):Int)=n%(m:Int):=by
 unfold aN
 have h1:=Nx n (show (m:Int)≠0 by omega)
 omega
theorem re (n:Int)(m:Nat)(e:0<m)(hn:n<0):(n%(m:Int)=0/\n.tmod (m:Int)=0)\/(0<n%(m:Int)/\n.tmod (m:Int)=n%(m:Int)-m):=by
 have d:=Nx n (show (m:Int)≠0 by omega);rw[Int.tmod_eq_emod]
 by_cases h:(m:Int)∣n
 ·left
  rw[if_pos (.inr h)];have:=Int.emod_eq_zero_of_dvd h;exact ⟨this,by omega⟩
 ·right
  have c:¬(n%(m:Int)=0):=fun a=>h (Int.dvd_of_emod_eq_zero a)
  rw[if_neg (by intro a;rcases a with a|a;omega;exact h a)];refine ⟨by omega,by simp⟩
def om (k:Nat):Nat:=match k with|0=>1|1=>1|2=>1|3=>2|4=>3|_=>4
theorem qw (k:Nat):0<om k:=by unfold om;split<;>omega
theorem tQ (k:Nat):om k<=4:=by unfold om;split<;>omega
def dL (n:Int):Rat:=mkR ((aN n 41:Int)-20) (om (aN (n.tdiv 41) 6):Nat)
def FR (n:Int):Rat:=mkR ((aN n 9:Int)-4) (((aN (n.tdiv 9) 2:Nat):Int)+1)
theorem uN (n:Int)(m:Int)(d:1<m)(a : -9223372036854775808<=n)(c:n<=9223372036854775807) : -9223372036854775808<=n.tdiv m/\n.tdiv m<=9223372036854775807:=by
 have h1:(n.tdiv m).natAbs<=n.natAbs/2:=by
  rw[Int.natAbs_tdiv];exact Nat.div_le_div_left oM oM
 omega
theorem Ad {n:Int}{m:Nat}(a:0<m)(h:n.tmod (m:Int)<0):n.tmod (m:Int)+m=((aN n m:Nat):Int):=by
 rw[pN n m a]
 rcases Nz n 0 with hn|hn
 ·rcases re n m a hn with ⟨h1,h2⟩|⟨h1,h2⟩<;>omega
 ·rw[NB hn] at h
  have:=Nx n (show (m:Int)≠0 by omega)
  omega
theorem vo {n:Int}{m:Nat}(a:0<m)(h:¬n.tmod (m:Int)<0):n.tmod (m:Int)=((aN n m:Nat):Int):=by
 rw[pN n m a]
 rcases Nz n 0 with hn|hn
 ·rcases re n m a hn with ⟨h1,h2⟩|⟨h1,h2⟩
  ·omega
  ·have:=Ny n (show (0:Int)<m by omega)
   omega
 ·rw[NB hn]
theorem Cw (n:Int){m:Nat}(c:0<m) : -(m:Int)<n.tmod (m:Int)/\n.tmod (m:Int)<m:=by
 have h1:=Int.tmod_lt_of_pos n (show (0:Int)<m by omega);have a:=Int.lt_tmod_of_pos n (show (0:Int)<m by omega);exact ⟨a,h1⟩
theorem eA (n:Int)(m:Nat)(f:0<m)(i:m<1000000)(w:World)(h:Hp)(g:G w h):CV 8 #[iV n,nV m] w h (nV (aN n m)):=by
 have c:=sS g;obtain ⟨j,l⟩:=Cw n f;refine go Tryz.func8 [(0,iV n),(1,nV m)] rfl (aa c ac (aG (lL c ax (lV 7 (iV (n.tmod (m:Nat))) ?_ (hr:=fq (t:=3) (u:=3) (x:=.tmp 5) (y:=.tmp 6) (k:=.i64) (a:=n) (b:=(m:Nat)) kR kR kR oM _)))));refine lL c ac (ah (aa c ac ?_));cases d:(decide ((n.tmod (m:Nat):Int)<(0:Int)))
 .
  have e:=oF d;exact lB 9 d (ag (cK (aa c ax (ae c [] (iV (n.tmod (m:Nat))) (congrArg (Value.int .i64) (vo f aM))))))
 have e:=oT d;refine lB 9 d (ak (kQ (lL c ax (lI 12 ((n.tmod (m:Nat))+(m:Nat)) ?_))));exact lL c ac (aG (lL c ax (ae c [] (iV ((n.tmod (m:Nat))+(m:Nat))) (congrArg (Value.int .i64) (Ad f aM)))))
theorem Ba (w:World):(Instr.index 141 (.agg #[.int .i64 1,.int .i64 1,.int .i64 1,.int .i64 2,.int .i64 3,.int .i64 4]) (.int .i64 0)).run Tryz.prog w=.ok (.int .i64 1) w:=by kernel_rfl
theorem Bp (w:World):(Instr.index 141 (.agg #[.int .i64 1,.int .i64 1,.int .i64 1,.int .i64 2,.int .i64 3,.int .i64 4]) (.int .i64 1)).run Tryz.prog w=.ok (.int .i64 1) w:=by kernel_rfl
theorem xz (w:World):(Instr.index 141 (.agg #[.int .i64 1,.int .i64 1,.int .i64 1,.int .i64 2,.int .i64 3,.int .i64 4]) (.int .i64 2)).run Tryz.prog w=.ok (.int .i64 1) w:=by kernel_rfl
theorem Br (w:World):(Instr.index 141 (.agg #[.int .i64 1,.int .i64 1,.int .i64 1,.int .i64 2,.int .i64 3,.int .i64 4]) (.int .i64 3)).run Tryz.prog w=.ok (.int .i64 2) w:=by kernel_rfl
theorem wI (w:World):(Instr.index 141 (.agg #[.int .i64 1,.int .i64 1,.int .i64 1,.int .i64 2,.int .i64 3,.int .i64 4]) (.int .i64 4)).run Tryz.prog w=.ok (.int .i64 3) w:=by kernel_rfl
theorem BZ (w:World):(Instr.index 141 (.agg #[.int .i64 1,.int .i64 1,.int .i64 1,.int .i64 2,.int .i64 3,.int .i64 4]) (.int .i64 5)).run Tryz.prog w=.ok (.int .i64 4) w:=by kernel_rfl
theorem GT (k:Nat)(h:k<6)(w:World):(Instr.index 141 (.agg #[.int .i64 1,.int .i64 1,.int .i64 1,.int .i64 2,.int .i64 3,.int .i64 4]) (.int .i64 (k:Int))).run Tryz.prog w=.ok (.int .i64 ((om k:Nat):Int)) w:=by
 have:k=0\/k=1\/k=2\/k=3\/k=4\/k=5:=by omega
 rcases this with rfl|rfl|rfl|rfl|rfl|rfl
 ·exact Ba w
 ·exact Bp w
 ·exact xz w
 ·exact Br w
 ·exact wI w
 ·exact BZ w
theorem Kq {Γ:cl}{o:Oper}{x y:Operand}(k:Nat)(h:k<6)(d:o.op=.index 141 x y)(c:ev Γ x=.agg #[.int .i64 1,.int .i64 1,.int .i64 1,.int .i64 2,.int .i64 3,.int .i64 4])(a:ev Γ y=.int .i64 (k:Nat))(w:World) :
  (execOp (ev Γ) o).run Tryz.prog w=.ok (.value (.int .i64 (om k:Nat))) w:=by
 unfold execOp;simp only[d];rw[c,a,Sem.run_bind,GT k h w];rfl
theorem hR (n:Int)(h0 : -9223372036854775808<=n)(h1:n<=9223372036854775807)(w:World)(h:Hp)(g:G w h):CR 36 #[iV n] w h (fun v h1=>RQ h1 v (dL n)):=by
 have a:=sS g;obtain ⟨K,O⟩:=uN n 41 oM h0 h1;have I:=ct n 41 oM;have l2:=ct (n.tdiv 41) 6 oM;have M:=qw (aN (n.tdiv 41) 6);have J:=tQ (aN (n.tdiv 41) 6);refine go Tryz.func36 [(0,iV n)] rfl (aD (lA 2 28 ca a (fun D w2 F a=>aG (lL a ac (aq 4 a (eA (n) 41 oM oM _ _ a.g) (fun L C a=>?_))))));have u:=ct (n) 41 oM;refine lI 5 ((aN (n) 41:Nat)-20) (lL a [.v (.agg #[iV 1,iV 1,iV 1,iV 2,iV 3,iV 4]),.c] (lV 8 (iV (n.tdiv 41)) ?_ (hr:=rS ((n.tdiv 41)) kR (pm oM oM))));refine aq 9 a (eA (n.tdiv 41) 6 oM oM _ _ a.g) (fun Q H a=>?_);have o:=ct (n.tdiv 41) 6 oM;refine lV 10 (nV (om (aN (n.tdiv 41) 6))) ?_ (hr:=Kq (x:=.tmp 6) (y:=.tmp 9) (aN (n.tdiv 41) 6) l2 kR kR kR _);refine lC 11 a (BA ((aN (n) 41:Nat)-20) (om (aN (n.tdiv 41) 6):Nat) oM oM oM oM oM _ _ a.g) ?_;rintro _ _ _ a ⟨e,i,d,j,rfl,z,p,B,l⟩;replace a:=a.aP B l;exact lP 0 0 (iS (dL n) e i d j) a (fun _ a=>ae a [(0,0,3)] (rG (dL n) e i d j) (⟨_,_,_,_,rfl,z,p,a.f.2.1,a.f.1⟩))
theorem LQ.hand (n:Int):LQ 1 (dL n):=by
 unfold dL
 have a:=ct n 41 oM;have c:=qw (aN (n.tdiv 41) 6);have d:=tQ (aN (n.tdiv 41) 6);exact LQ.mkR oM oM oM oM oM
abbrev RT:=Bool × Value × Value
def fJ (t:RT):List Value:=[.bool t.1,t.2.1,t.2.2]
def iU:RT:=(false,undef,undef)
abbrev rA (t:RT):Value:=.agg #[.bool t.1,t.2.1,t.2.2]
abbrev Sr (A:Z9)(l:List RT):Hp->Prop:=fun h_=>SlO 3 fJ iU h_ A l
def EW (t:RT):Value:=.agg #[.bool t.1,t.2.1,t.2.2]
structure RTs (h:Hp) (ts:List RT) (qs:List Rat):Prop where
  len:ts.length=qs.length
  at_:∀ i,i<qs.length->RQ h (EW (ts.getD i iU)) (qs.getD i 0)
abbrev Rt (t:List RT)(l:List Rat):Hp->Prop:=fun h_=>RTs h_ t l
theorem RTs.gw {h a:Hp}{d:List RT}{c:List Rat}(r:RTs h d c)(u:Gw h a):RTs a d c:=⟨r.len,fun i hi=>(r.at_ i hi).gw u⟩
theorem SS.aT {t:List RT}{l:List Rat}{w0 w:World}{h0 h:Hp}{B:List Bx}{R:List Rw}{F:List (Hp->Prop)}(s:SS w0 h0 w h B R F)(p:RTs h t l):SS w0 h0 w h B R (Rt t l::F):=s.add (K:=Rt t l) p
theorem RTs.nil {h:Hp}:RTs h [] []:=⟨rfl,fun i hi=>by simp at hi⟩
theorem eJ {α:Type}(l:List α)(x d:α)(i:Nat):(l++[x]).getD i d=if i<l.length then l.getD i d else if i=l.length then x else d:=by
 split
 ·rename_i h;simp[List.getElem?_append_left h]
 ·rename_i h
  split
  ·rename_i a;subst a;simp
  ·rename_i a;simp[ta (show (l++[x]).length<=i by simp;omega)]
theorem RTs.snoc {h:Hp}{c:List RT}{a:List Rat}(r:RTs h c a){t:RT}{q:Rat}(d:RQ h (EW t) q):RTs h (c++[t]) (a++[q]):=by
 refine ⟨by simp[r.len],fun i hi=>?_⟩;rw[eJ,eJ,r.len]
 split
 ·rename_i h1;exact r.at_ i h1
 ·rename_i h1
  have:i=a.length:=by simp at hi;omega
  rw[if_pos this,if_pos this];exact d
theorem mX {α:Type}{l:List α}{k:Nat}(d:α)(h:k<l.length):l.take (k+1)=l.take k++[l.getD k d]:=by
 rw[List.take_add_one];simp[h]
def vc (v:Value):List Value:=[v]
abbrev Sv (A:Z9)(l:List Value):Hp->Prop:=fun h_=>SlO 1 vc undef h_ A l
def lu (zs:List Int):Nat->List Rat
  | 0=>[]
  | k+1=>lu zs k++[if k<zs.length then dL (zs.getD k 0) else 0]
theorem mF (a:List Int)(k:Nat):(lu a k).length=k:=by induction k with|zero=>rfl|succ k ih=>simp[lu,ih]
def nu (zs:List Int):Prop:=∀ k,-9223372036854775808<=zs.getD k 0/\zs.getD k 0<=9223372036854775807
structure RVs (h:Hp) (vs:List Value) (qss:List (List Rat)):Prop where
  len:vs.length=qss.length
  at_:∀ i,i<qss.length->∃ A cap,∃ ts:List RT,vs.getD i undef=.slice A ts.length cap/\ts.length<=cap/\SlO 3 fJ iU h A ts/\RTs h ts (qss.getD i [])
abbrev Ru (t:List Value)(l:List (List Rat)):Hp->Prop:=fun h_=>RVs h_ t l
structure QVs (h:Hp) (vs:List Value) (qss:List (List Rat)):Prop where
  len:vs.length=qss.length
  at_:∀ i,i<qss.length->JU 5 qc 0 h (vs.getD i undef) (qss.getD i [])
abbrev Qu (t:List Value)(l:List (List Rat)):Hp->Prop:=fun h_=>QVs h_ t l
theorem nM {c:List Int}{k:Nat}{q:Rat}(f:(if k<c.length then dL (c.getD k 0) else 0)=q){a:List RT}{d:Hp}(e:RTs d a (lu c k++[q])):RTs d a (lu c (k+1)):=by
 show RTs d a (lu c k++[_]);rw[f];exact e
theorem pp (a:List Int):∀ n i,LQ 1 ((lu a n).getD i 0)
  | 0,i=>LQ.lit (z:=0) kD
  | n + 1,i=>by
    show LQ 1 ((lu a n++[_]).getD i 0)
    rw[eJ]
    split
    . exact pp a n i
    . split
      . split
        . exact LQ.hand _
        . exact LQ.lit (z:=0) kD
      . exact LQ.lit (z:=0) kD
theorem oR {h:Hp}{A D:Z9}{c d:Nat}{q:Rat}(h1:(lim (ab q.num)).length<=c)(a:(lim q.den).length<=d)(e:SlO 1 az 0 h A (lim (ab q.num)))(f:SlO 1 az 0 h D (lim q.den)):RQ h (EW ((af q.num,.slice A (lim (ab q.num)).length c,.slice D (lim q.den).length d):RT)) q:=⟨_,_,_,_,rfl,h1,a,e,f⟩
theorem Cl (A:Z9)(p:Nat)(e:List RT)(d:List Rat)(Y:d.length<=1000000)(hf:∀ i,i<d.length->LQ 100000000 (d.getD i 0))(w:World)(h:Hp)(g:G w h)(Q:Sr A e h)(L:RTs h e d)(O:Tab h):CR 11 #[.slice A e.length p] w h (fun v h1=>JU 5 qc 0 h1 v d):=by
 have a:=((((sS g).aS Q).aT L).add (K:=fun B=>Tab B) O);have H:=(a.f.2.1).len;refine go Tryz.func11 [(0,qS A e.length p)] rfl (aa a ac (aG (lL a ac (ah (aa a ac (aZ ?_))))));replace a:=a.nil 49 5;refine bH _ (CG.loop (fun C Γ M=>∃ (k:Nat)(y:Z9)(x:Nat)(j:List Rat)(B:Hp),C=d.length-k/\Γ=[(0,qS A e.length p),(2,sZ),(4,nV k),(3,qS y ((j).length) x)]/\SS w h M B [] [⟨49,5,y,x,(j).length,(j).flatMap qc⟩] [fun B=>Tab B,Rt e d,Sr A e]/\k<=d.length/\j=d.take k) _ ⟨0,none,0,[],h,rfl,rfl,a.to _ _,Mv _,rfl⟩ ?_);rintro _ _ w1 ⟨k,y,x,j,Z,J,rfl,a,hk,u⟩;have X:j.length=k:=by rw[u];simp;omega
 refine cQ (aa a [.c,.c,.v (nV e.length)] ?_);cases o:(decide ((k:Int)<(e.length:Int)))
 .
  have z:=oF o;refine lB 8 o (ag (CG.exit ?_))
  show CG _ _ _ _ _ _ _ _
  refine aa a ax (lN (kX ?_));have D:j=d:=by rw[u];exact LO oM
  subst D;obtain ⟨h5,a,F⟩:=a.pubr 0 (A:=y) (c:=x) (l:=j) (f:=qc) (ty:=49) (sz:=5) 0 (fun _=>rfl);exact a.ret [] (qS y ((j).length) x) (⟨_,_,rfl,F,a.f.1⟩)
 have z:=oT o;refine lB 8 o (ak (cK (cQ (kZ (kQ (lL a cJ (lX 14 A e.length p 3 (k:Nat) k ((a.f.r.1).ok oM) ?_)))))));refine lH 15 (rA (e.getD k iU)) a ((a.f.r.1).el k oM) (aq 16 a (Jc _ (d.getD k 0) (hf k oM) _ _ a.g ((a.f.2.1).at_ k oM) a.f.1) (fun w8 h9 a=>lR 17 49 1 (qc (d.getD k 0)) a (fun U _ _ a=>lY 18 0 49 5 x y j qc (d.getD k 0) 56 U a8 a a.f.1 (fun W V _ I a=>lL a ac (lN (kQ (lL a ac (bv 10 ((k:Nat)+1) (k+1) ?_))))))));refine lL a ac (lD ?_);intro a_ S;replace a:=a.tl;refine ⟨_,_,?_,⟨k+1,W,V,j++[d.getD k 0],I,rfl,rfl,a.to _ _,oM,(by rw[mX 0 oM,u])⟩,S.to _ kR⟩
 omega
theorem IS (A:Z9)(o:Nat)(d:List Int)(n:Nat)(hn:n<=1000000)(hl:d.length<=9223372036854775807)(hz:nu d)(w:World)(h:Hp)(g:G w h)(hA:Si A d h):CR 20 #[.slice A d.length o,nV n] w h (fun v h1=>∃ A c,∃ e:List RT,v=.slice A e.length c/\e.length<=c/\Sr A e h1/\RTs h1 e (lu d n)):=by
 have a:=((sS g).aS hA);refine go Tryz.func20 [(0,qS A d.length o),(1,nV n)] rfl (aa a ac (aG (lL a ac (ah (aa a ac (aZ ?_))))));replace a:=a.nil 28 3;replace a:=a.aT (RTs.nil);refine bH _ (CG.loop (fun F Γ X=>∃ (k:Nat)(u:Z9)(p:Nat)(e:List RT)(h_:Hp),F=n-k/\Γ=[(0,qS A d.length o),(1,nV n),(4,sZ),(6,nV k),(5,qS u ((e).length) p)]/\SS w h X h_ [] [⟨28,3,u,p,(e).length,(e).flatMap fJ⟩] [Rt e (lu d k),Si A d]/\k<=n) _ ⟨0,none,0,[],h,rfl,rfl,a.to _ _,Mv _⟩ ?_);rintro _ _ w1 ⟨k,u,p,e,h2,U,rfl,a,hk⟩;have H:=(a.f.1).len;rw[mF] at H
 refine cQ (aa a ax ?_);cases i:(decide ((k:Int)<(n:Int)))
 .
  have x:=oF i;refine lB 9 i (ag (CG.exit ?_))
  show CG _ _ _ _ _ _ _ _
  refine aa a ax (lN (kX ?_));have I:k=n:=by omega
  subst I;obtain ⟨h5,a,L⟩:=a.pubr 0 (A:=u) (c:=p) (l:=e) (f:=fJ) (ty:=28) (sz:=3) iU (fun _=>rfl);exact a.ret [] (qS u ((e).length) p) (⟨_,_,e,rfl,L,a.f.1,a.f.2.1⟩)
 have x:=oT i;refine lB 9 i (ak (cK (cQ (kZ (aa a [.c,.c,.v (nV d.length)] ?_)))));cases j:(decide ((k:Int)<(d.length:Int)))
 .
  have y:=oF j;refine lB 15 j (ag (kQ (lL a ac (lC 25 a (vR 0 oM oM _ _ a.g) ?_))));rintro _ _ _ a ⟨z,C,D,B,rfl,Y,zj,zk,zl⟩;replace a:=a.aP zk zl;refine lR 26 28 1 (iS ((0:Int):Rat) z C D B) a (fun Z _ _ a=>lY 27 0 28 3 p u e fJ ((af ((0:Int):Rat).num,qS z ((lim (ab ((0:Int):Rat).num)).length) C,qS D ((lim ((0:Int):Rat).den).length) B):RT) 56 Z (.agg #[qF,sZ,sZ]) a a.f.1 (fun zr zt _ W a=>lL a ac (lN (kQ (lL a ac (bv 11 ((k:Nat)+1) (k+1) ?_))))));refine lL a ac (lD ?_);intro a_ M;replace a:=(a.tl.tl.tl.tl.add (K:=Rt (e++[((af ((0:Int):Rat).num,qS z ((lim (ab ((0:Int):Rat).num)).length) C,qS D ((lim ((0:Int):Rat).den).length) B):RT)]) (lu d (k+1))) (nM ((if_neg oM).trans (show (0:Rat)=((0:Int):Rat) from rfl)) (RTs.snoc a.f.r.2.1 (oR Y zj a.f.r.1 a.f.2.1))));refine ⟨_,_,?_,⟨k+1,zr,zt,e++[((af ((0:Int):Rat).num,qS z ((lim (ab ((0:Int):Rat).num)).length) C,qS D ((lim ((0:Int):Rat).den).length) B):RT)],W,rfl,rfl,a.to _ _,oM⟩,M.to _ kR⟩
  omega
 have y:=oT j;refine lB 15 j (ak (kQ (lL a cJ (lX 19 A d.length o 1 (k:Nat) k ((a.f.2.1).ok oM) ?_))));refine lH 20 (iV (d.getD k 0)) a ((a.f.2.1).el k oM) (lC 21 a (hR (d.getD k 0) (hz k).1 (hz k).2 _ _ a.g) ?_);rintro _ _ _ a ⟨S,O,J,Q,rfl,zm,zn,zo,V⟩;replace a:=a.aP zo V;refine lR 22 28 1 (iS (dL (d.getD k 0)) S O J Q) a (fun zv _ _ a=>lY 23 0 28 3 p u e fJ ((af (dL (d.getD k 0)).num,qS S ((lim (ab (dL (d.getD k 0)).num)).length) O,qS J ((lim (dL (d.getD k 0)).den).length) Q):RT) 56 zv (.agg #[qF,sZ,sZ]) a a.f.1 (fun zw zx _ zA a=>lL a ac (lN (kQ (lL a ac (bv 11 ((k:Nat)+1) (k+1) ?_))))));refine lL a ac (lD ?_);intro a_ M;replace a:=(a.tl.tl.tl.tl.aT (nM (if_pos oM) (RTs.snoc a.f.r.2.1 (oR zm zn a.f.r.1 a.f.2.1))));refine ⟨_,_,?_,⟨k+1,zw,zx,e++[((af (dL (d.getD k 0)).num,qS S ((lim (ab (dL (d.getD k 0)).num)).length) O,qS J ((lim (dL (d.getD k 0)).den).length) Q):RT)],zA,rfl,rfl,a.to _ _,oM⟩,M.to _ kR⟩
 omega
theorem Et {α:Type}{d:α}{a b:List α}{k:Nat}(h:∀ i,i<k->a.getD i d=b.getD i d)(c:a.getD k d=b.getD k d):∀ i,i<k+1->a.getD i d=b.getD i d:=fun i hi=>by
 by_cases e:i=k
 ·rw[e];exact c
 ·exact h i oM
theorem Is {α:Type}[DecidableEq α]{d:α}{a b:List α}(e:a.length=b.length)(h:∀ i,i<a.length->a.getD i d=b.getD i d):Value.bool true=.bool (decide (a=b)):=by
 rw[decide_eq_true];refine NC e (fun i h1 c=>?_);have:=h i h1
 simpa [h1,c] using this
theorem Il {α:Type}[DecidableEq α]{a b:List α}(c:a.length≠b.length):Value.bool false=.bool (decide (a=b)):=by
 rw[decide_eq_false];intro e;exact c (by rw[e])
theorem Gn {α:Type}[DecidableEq α]{d:α}{a b:List α}(k:Nat)(h:a.getD k d≠b.getD k d):Value.bool false=.bool (decide (a=b)):=by
 rw[decide_eq_false];intro e;exact h (by rw[e])
theorem Bv (A:Z9)(z:Nat)(d ps:List Rat)(D:Z9)(p:Nat)(e:List RT)(hl:d.length<=1000000)(hlp:ps.length<=1000000)(hf:∀ i,i<d.length->LQ 100000000 (d.getD i 0))(J:∀ i,i<ps.length->LQ 100000000 (ps.getD i 0))(w:World)(h:Hp)(g:G w h)(U:Sq A d h)(L:Sr D e h)(M:RTs h e ps):CV 14 #[.slice A d.length z,.slice D e.length p] w h (.bool (decide (d=ps))):=by
 have a:=((((sS g).aS U).aS L).aT M);have K:=(a.f.1).len;refine go Tryz.func14 [(0,qS A d.length z),(1,qS D e.length p)] rfl (aa a ac (ah (aa a [.c,.v (nV d.length),.c,.v (nV e.length)] ?_)));cases l:((d.length:Int) != (e.length:Int))
 .
  have x:=aW l;refine lB 10 l (ag (cK (cQ (aa a ac (aZ ?_)))));refine bH _ (CG.loop (fun I Γ O=>∃ (k:Nat)(h_:Hp),I=d.length-k/\Γ=[(0,qS A d.length z),(1,qS D e.length p),(5,nV k)]/\SS w h O h_ [] [] [Rt e ps,Sr D e,Sq A d]/\k<=d.length/\d.length=ps.length/\(∀ i,i<k->d.getD i 0=ps.getD i 0)) _ ⟨0,h,rfl,rfl,a.to _ _,Mv _,by omega,fun i hi=>absurd hi (Nat.not_lt_zero i)⟩ ?_);rintro _ _ w2 ⟨k,h3,X,rfl,a,hk,o,u⟩;refine cQ (aa a [.c,.c,.v (nV d.length)] ?_);cases j:(decide ((k:Int)<(d.length:Int)))
  .
   have y:=oF j;refine lB 14 j (ag (CG.exit ?_))
   show CG _ _ _ _ _ _ _ _
   exact aa a ac (ae a [] qT (Is o (fun i hi=>u i oM)))
  have y:=oT j;refine lB 14 j (ak (cK (cQ (kZ (cQ (cR 10 [] mixed a ar ?_))))));refine eV 0 17 (qS A d.length z) (eV 1 18 (nV k) (eX 2 19 A d.length z 5 (k:Nat) k ((a.f.r.1).ok oM) (eH 3 20 (qv (d.getD k 0)) a ((a.f.r.1).el k oM) (eV 4 21 (qS D e.length p) (eV 5 22 (nV k) (eX 6 23 D e.length p 3 (k:Nat) k ((a.f.2.1).ok oM) ?_))))));obtain ⟨Q,V,W,Y,ex,F,B,H,C⟩:=(a.f.1).at_ k oM;replace a:=a.aP H C;refine vw 7 24 (rA (e.getD k iU)) a ((a.f.r.2.1).el k oM) ex (au 8 25 a (fun _ _ a=>EY (d.getD k 0) (ps.getD k 0) (hf k oM) (J k oM) Q V W Y F B _ _ a.g a.f.2.1 a.f.1) (fun w6 h7 a=>?_));cases S:(gK (d.getD k 0) (ps.getD k 0))
  .
   exact eV 9 26 qT (bS a (fun w9 _ a=>tN (cn (aa a ac (ae a [] qF (Gn k (oF ‹gK _ _=false›)))))))
  refine eV 9 26 qF (bS a (fun _ za a=>tN (dC (cK (kQ (lL a ac (bv 16 ((k:Nat)+1) (k+1) ?_)))))));refine lL a ac (lD ?_);intro a_ Z;replace a:=a.tl.tl;refine ⟨_,_,?_,⟨k+1,za,rfl,rfl,a.to _ _,oM,o,(Et u (oT ‹gK _ _=true›))⟩,Z.to _ kR⟩
  omega
 have x:=aK l;exact lB 10 l (ak (aa a ac (ae a [] qF (Il oM))))
def Hl (a b:Rat):Rat:=if a<b then b else a
structure Lay where
  k:Int
  W:List (List Rat)
  B:List Rat
def jf:Lay:=⟨0,[],[]⟩
abbrev LV:=Int × Value × Value
def H4:LV:=(0,undef,undef)
structure NetL (h:Hp) (ts:List LV) (ls:List Lay):Prop where
  len:ts.length=ls.length
  at_:∀ i,i<ls.length->(ts.getD i H4).1=(ls.getD i jf).k/\(∃ A c,∃ us:List Value,(ts.getD i H4).2.1=.slice A us.length c/\us.length<=c/\SlO 1 vc undef h A us/\QVs h us (ls.getD i jf).W)/\JU 5 qc 0 h (ts.getD i H4).2.2 (ls.getD i jf).B
abbrev Nn (t:List LV)(l:List Lay):Hp->Prop:=fun h_=>NetL h_ t l
structure RNetL (h:Hp) (ts:List LV) (ls:List Lay):Prop where
  len:ts.length=ls.length
  at_:∀ i,i<ls.length->(ts.getD i H4).1=(ls.getD i jf).k/\(∃ A c,∃ us:List Value,(ts.getD i H4).2.1=.slice A us.length c/\us.length<=c/\SlO 1 vc undef h A us/\RVs h us (ls.getD i jf).W) /\
    (∃ A c,∃ rs:List RT,(ts.getD i H4).2.2=.slice A rs.length c/\rs.length<=c/\SlO 3 fJ iU h A rs/\RTs h rs (ls.getD i jf).B)
abbrev Rn (t:List LV)(l:List Lay):Hp->Prop:=fun h_=>RNetL h_ t l
def AR (l:List Rat):Prop:=∀ q∈l,∃ z,q=FR z
structure LayMk (L:Lay) (kq:Nat) (r c:Nat):Prop where
  k:L.k=(kq:Int)
  rows:L.W.length=r
  row:∀ q∈L.W,q.length=c/\AR q
  bl:L.B.length=r
  bs:AR L.B
theorem xx (A:Z9)(j:Nat)(i:List Int)(J:i.length<=9223372036854775807)(hz:nu i)(a at_:Nat)(ha:at_<=i.length)(w:World)(h:Hp)(g:G w h)(y:Own w a 66 [.slice A i.length j,nV at_])(H:h[a]?=some bg)(B:Si A i h):Calls Tryz.prog 35 #[pB a] w (fd a w h fun v w' _=>∃ (z:Int)(at2:Nat),v=iV z/\at2<=i.length/\(-9223372036854775808<=z/\z<=9223372036854775807)/\Own w' a 66 [.slice A i.length j,nV at2]):=by
 have e:UpM [a] w h w h:=UpM.refl g;obtain ⟨wz,x,d⟩:=SS.at_ g y H;replace d:=d.aS B;refine go Tryz.func35 [(0,pB a)] rfl (aa d ac (ah (cQ (cR 10 [] mixed d ar ?_))));refine eV 0 3 (pB a) (eV 1 4 (pB a) (eV 2 5 (qP a 1) (eO 3 6 [(0,1,1)] (nV at_) d (eV 4 7 (pB a) (eV 5 8 (pB a) (eV 6 9 (pB a) (eO 7 10 [(0,0,1)] (qS A i.length j) d (eV 8 11 (nV i.length) ?_))))))));cases l:(decide ((i.length:Int)<=(at_:Int)))
 .
  have p:=oF l;refine eB 9 12 l (jV d (fun w2 I F d=>?_));replace e:=e.trans (F.m _);refine tN (dC (cK (aa d [.c,.v (pB a),.v (qP a 1),.o (nV at_) 0 1 1] (bv 17 ((at_:Nat)+1) (at_+1) ?_))));refine lL d [.v (pB a),.v (qP a 1)] (nI 0 1 ([nV (at_+1)]) d (fun M D d=>?_));replace e:=e.put D (sA.2 rfl) d.g;refine ah (cR 11 [] mixed d ar ?_);refine eV 0 20 (pB a) (eV 1 21 (pB a) (eV 2 22 (pB a) (eO 3 23 [(0,0,1)] (qS A i.length j) d (eV 4 24 (pB a) (eV 5 25 (pB a) (eV 6 26 (qP a 1) (eO 7 27 [(0,1,1)] (nV (at_+1)) d (j4 8 28 ((at_+1:Nat)-1) ((at_+1)-1) (eX 9 29 A i.length j 1 ((at_+1)-1:Nat) ((at_+1)-1) ((d.f.1).ok oM) (eH 10 30 (iV (i.getD ((at_+1)-1) 0)) d ((d.f.1).el ((at_+1)-1) oM) (jV d (fun K L C d=>?_))))))))))));replace e:=e.trans (C.m _);exact tV 11 2 (iV (i.getD ((at_+1)-1) 0)) (tN (kX (d.retM e [] (iV (i.getD ((at_+1)-1) 0)) ⟨i.getD ((at_+1)-1) 0,(at_+1),rfl,by omega,hz _,d.own 0⟩)))
 have p:=oT l;refine eB 9 12 l (jV d (fun O _ u d=>?_));replace e:=e.trans (u.m _);exact tN (cn (aa d ac (lN (kX (d.retM e [] (iV 0) ⟨0,at_,rfl,by omega,⟨by decide,by decide⟩,d.own 0⟩)))))
structure LayFit (L:Lay):Prop where
  rl:L.W.length<=1000000
  rls:∀ i,i<L.W.length->(L.W.getD i []).length<=1000000
  rf:∀ i,i<L.W.length->∀ j,j<(L.W.getD i []).length->LQ 100000000 ((L.W.getD i []).getD j 0)
  bl:L.B.length<=1000000
  bf:∀ i,i<L.B.length->LQ 100000000 (L.B.getD i 0)
structure Stp where
  op:Int
  a:Int
  b:Int
  n:Int
  q:Rat
abbrev sX (p:Stp):Value:=.agg #[iV p.op,iV p.a,iV p.b,iV p.n,.bool (af p.q.num),uV (lo (ab p.q.num)),.string (hi (ab p.q.num)),uV (lo (qd p.q)),.string (hi (qd p.q))]
abbrev sC (p:Stp):List Value:=[iV p.op,iV p.a,iV p.b,iV p.n,.bool (af p.q.num),uV (lo (ab p.q.num)),.string (hi (ab p.q.num)),uV (lo (qd p.q)),.string (hi (qd p.q))]
abbrev sW (o a b n:Int)(q:Rat):Value:=.agg #[iV o,iV a,iV b,iV n,.bool (af q.num),uV (lo (ab q.num)),.string (hi (ab q.num)),uV (lo (qd q)),.string (hi (qd q))]
abbrev sG (o a b n:Int)(q:Rat):List Value:=[iV o,iV a,iV b,iV n,.bool (af q.num),uV (lo (ab q.num)),.string (hi (ab q.num)),uV (lo (qd q)),.string (hi (qd q))]
def fj:Stp:=⟨0,0,0,0,0⟩
abbrev gP (l:List Stp)(k:Nat):Stp:=l.getD k fj
def gG (op:Int):Int :=
  if op=1\/op=2 then 0 else if op=7\/op=8\/op=9\/op=10\/op=11 then 1
  else if op=3\/op=4\/op=5\/op=6\/op=12\/op=13 then 2 else -1
theorem aE (op:Int):(gG op=0/\(op=1\/op=2))\/(gG op=1/\(op=7\/op=8\/op=9\/op=10\/op=11))\/(gG op=2/\(op=3\/op=4\/op=5\/op=6\/op=12\/op=13))\/(gG op = -1/\(op<1\/13<op)):=by
 unfold gG;split
 ·exact .inl ⟨rfl,by assumption⟩
 ·split
  ·exact .inr (.inl ⟨rfl,by assumption⟩)
  ·split
   ·exact .inr (.inr (.inl ⟨rfl,by assumption⟩))
   ·exact .inr (.inr (.inr ⟨rfl,by omega⟩))
def oW (i:Nat)(tt:Int)(used:Prop):Prop:=(used->0<=tt/\tt<i)/\(¬used->tt=0)
def ph (inp:Int)(i:Nat)(s:Stp):Prop :=
  0<=gG s.op/\oW i s.a (0<gG s.op)/\oW i s.b (1<gG s.op)/\(s.op≠1->s.q.num=0) /\
  (s.op=2->0<=s.n/\s.n<inp)/\(s.op=8 -> -12<=s.n/\s.n<=12)/\(s.op≠2->s.op≠8->s.n=0)
instance (i:Nat) (tt:Int) (u:Prop) [Decidable u]:Decidable (oW i tt u):=by unfold oW;infer_instance
instance (inp:Int) (i:Nat) (s:Stp):Decidable (ph inp i s):=by unfold ph;infer_instance
def x5 (n:Nat)(os:List Int):Prop:=∀ i,i<os.length->0<=os.getD i 0/\os.getD i 0<n
instance (n:Nat) (os:List Int):Decidable (x5 n os):=by unfold x5;infer_instance
structure RSt where
  op:Int
  a:Int
  b:Int
  n:Int
  t:RT
def Kc:RSt:=⟨0,0,0,0,iU⟩
structure OSt where
  op:Int
  a:Int
  b:Int
  n:Int
  q:Rat
  has:Bool
def EB:OSt:=⟨0,0,0,0,0,false⟩
def oG (o:OSt):Nat:=if o.has then o.q.den else 0
def OSt.stp (o:OSt):Stp:=⟨o.op,o.a,o.b,o.n,o.q⟩
abbrev gO (s:List OSt)(k:Nat):OSt:=s.getD k EB
abbrev mO (s:List OSt):List Stp:=s.map OSt.stp
theorem Ew {o:OSt}:0<(lim (oG o)).length↔o.has=true:=by
 rw[bR];unfold oG;have:=o.q.den_pos;cases o.has<;>simp;omega
theorem CF {o:OSt}(h:o.has=true):oG o=o.q.den:=by unfold oG;rw[h];rfl
structure RS1 (h:Hp) (t:RSt) (o:OSt):Prop where
  op:t.op=o.op
  a:t.a=o.a
  b:t.b=o.b
  n:t.n=o.n
  q:RP h (EW t.t) o.q.num (oG o)
  z:o.has=false->o.q=0
structure RSs (h:Hp) (ts:List RSt) (os:List OSt):Prop where
  len:ts.length=os.length
  at_:∀ i,i<os.length->RS1 h (ts.getD i Kc) (os.getD i EB)
structure OSm (o:OSt):Prop where
  op : -1000<=o.op/\o.op<=1000
  a : -1000<=o.a/\o.a<=1000
  b : -1000<=o.b/\o.b<=1000
  n : -1000<=o.n/\o.n<=1000
  q:LQ 1 o.q
def Kx (os:List OSt):Prop:=∀ i,i<os.length->OSm (os.getD i EB)
structure LayLen (L:Lay):Prop where
  rl:L.W.length<=1000000
  rls:∀ i,i<L.W.length->(L.W.getD i []).length<=1000000
  bl:L.B.length<=1000000
structure Mat (W:List (List Rat)) (r c:Nat):Prop where
  rows:W.length=r
  rpos:0<r
  cpos:0<c
  row:∀ i,i<r->(W.getD i []).length=c
structure Net3 (ls:List Lay) (d:Nat->Nat):Prop where
  len:1<=ls.length/\ls.length<=4
  first:d 0<=20
  lay:∀ i,i<ls.length->Mat (ls.getD i jf).W (d (i+1)) (d i)/\(ls.getD i jf).B.length=d (i+1)/\d (i+1)<=12/\((ls.getD i jf).k=1\/(ls.getD i jf).k=2\/(ls.getD i jf).k=3)
def K9 (k:Int)(u:Rat):Rat:=if k=2 then Hl u 0 else if k=3 then u/(((1:Int):Rat)+ku u) else u
def Ks (L:Lay)(x:List Rat):List Rat:=(List.range L.W.length).map fun i=>K9 L.k (Hu (L.W.getD i []) x x.length+L.B.getD i 0)
def EI (ls:List Lay)(xs:List Rat):Nat->List Rat
  | 0=>xs
  | k+1=>Ks (ls.getD k jf) (EI ls xs k)
abbrev gD (ls:List Lay)(xs:List Rat)(k r:Nat):Rat:=Hu ((ls.getD k jf).W.getD r []) (EI ls xs k) (EI ls xs k).length
abbrev gS (ls:List Lay)(xs:List Rat)(k r:Nat):Rat:=gD ls xs k r+((ls.getD k jf).B).getD r 0
structure NetB (ls:List Lay) (xs:List Rat):Prop where
  w:∀ k i j,LQ 1000000 (((ls.getD k jf).W.getD i []).getD j 0)
  b:∀ k i,LQ 1000000 ((ls.getD k jf).B.getD i 0)
  x:∀ k,k<=ls.length->∀ j,LQ 1000000 ((EI ls xs k).getD j 0)
theorem RQ.eq {h:Hp}{v:Value}{p q:Rat}(x:RQ h v p)(e:p=q):RQ h v q:=by subst e;exact x
theorem Ci {n:Nat}:∀ j,(zZ n (0:Rat)).getD j 0=0:=fun j=>by
 rw[LI,List.getElem?_replicate];split<;>rfl
structure LaySz (L:Lay):Prop where
  rl:L.W.length<=8
  rls:∀ i,(L.W.getD i []).length<=8
  bl:L.B.length<=8
  w:∀ i j,LQ 1 ((L.W.getD i []).getD j 0)
  b:∀ i,LQ 1 (L.B.getD i 0)
  b4:L.B.length<=4
  w4:(L.W.getD 0 []).length<=4
theorem rL {k:Nat}(h:1<=k):LQ k 0:=(LQ.lit (z:=0) kD).mono h
theorem cV {α:Type}{l:List α}{n i:Nat}{d x:α}(h:n<l.length):(l.set n x).getD i d=if i=n then x else l.getD i d:=by
 split
 ·rename_i e;subst e;simp[h]
 ·rename_i e;rw[LI,ub (Ne.symm e),<-LI]
structure LayS4 (L:Lay):Prop where
  rl:L.W.length<=4
  rls:∀ i,(L.W.getD i []).length<=4
  bl:L.B.length<=4
  w:∀ i j,LQ 1 ((L.W.getD i []).getD j 0)
  b:∀ i,LQ 1 (L.B.getD i 0)
theorem eL {α:Type}{l:List α}{i:Nat}{d:α}(h:l.length<=i):l.getD i d=d:=by rw[LI,ta h];rfl
def Gc (a:Rat):Nat->Rat
  | 0=>((1:Int):Rat)
  | k+1=>Gc a k*a
def Ii (a:Rat)(n:Int):Rat:=if 0<=n then Gc a n.natAbs else ((1:Int):Rat)/Gc a n.natAbs
def KJ (a b:Rat):Rat:=if b<a then b else a
def La (op n:Int)(q a b:Rat):Rat :=
  if op=1 then q else if op=3 then a+b else if op=4 then a-b else if op=5 then a*b else if op=6 then a/b else if op=7 then -a
  else if op=8 then Ii a n else if op=9 then ku a else if op=10 then Hl a 0 else if op=11 then a/(ku a+((1:Int):Rat)) else if op=12 then Hl a b else KJ a b
def vm (op n:Int)(a b:Rat):Prop:=(op=6->b≠0)/\(op=8->n<0->a≠0)
instance (op n:Int) (a b:Rat):Decidable (vm op n a b):=by unfold vm;infer_instance
def Bj (op:Int)(a b:Rat):Prop:=(op=9\/op=10)/\a=0\/(op=12\/op=13)/\a=b
instance (op:Int) (a b:Rat):Decidable (Bj op a b):=by unfold Bj;infer_instance
def Ky (op n:Int)(a b:Rat):Rat :=
  if op=3 then ((1:Int):Rat) else if op=4 then ((1:Int):Rat) else if op=5 then b else if op=6 then ((1:Int):Rat)/b else if op=7 then -((1:Int):Rat)
  else if op=8 then (if n=0 then 0 else Ii a (n-1)*((n:Int):Rat)) else if op=9 then ((a.num.sign:Int):Rat) else if op=10 then ((max a.num.sign 0:Int):Rat)
  else if op=11 then (((1:Int):Rat)/(((1:Int):Rat)+ku a))*(((1:Int):Rat)/(((1:Int):Rat)+ku a))
  else if op=12 then (if b<a then ((1:Int):Rat) else 0) else if op=13 then (if b<a then 0 else ((1:Int):Rat)) else 0
def K0 (op:Int)(a b:Rat):Rat :=
  if op=3 then ((1:Int):Rat) else if op=4 then -((1:Int):Rat) else if op=5 then a else if op=6 then -(a*(((1:Int):Rat)/b)*(((1:Int):Rat)/b))
  else if op=12 then (if b<a then 0 else ((1:Int):Rat)) else if op=13 then (if b<a then ((1:Int):Rat) else 0) else 0
theorem li (z:Int) : -1<=z.sign/\z.sign<=1:=by
 rcases MX z 0 with h|h|h
 ·rw[MY h];decide
 ·rw[h];decide
 ·rw[MZ h];decide
theorem Hw {a:Rat}(h:a≠0):a.num≠0:=fun e=>h (by rw[<-Nv];exact e)
theorem g9 {a b:Rat}:di a b=0↔a=b:=by
 constructor
 ·intro h
  have h1:¬a<b:=fun x=>by have:=iY.2 x;omega
  have c:¬b<a:=fun x=>by have:=i9.2 x;omega
  grind
 ·intro h;subst h
  have h1:¬di a a<0:=fun x=>by have:=iY.1 x;grind
  have c:¬di a a>0:=fun x=>by have:=i9.1 x;grind
  omega
theorem nk {a b:List Rat}(h:a.length=b.length)(hv:∀ j,a.getD j 0=b.getD j 0):a=b:=by
 refine NC h (fun i h1 c=>?_);have:=hv i
 simpa [h1,c] using this
theorem I4 (op:Int)(w:World)(h:Hp)(g:G w h):CV 85 #[iV op] w h (iV (gG op)):=by
 have a:=sS g;refine go Tryz.func85 [(0,iV op)] rfl (aa a ac (ah (aa a ac (aZ (cQ (aD ?_))))));cases o:((op:Int) == (1:Int))
 .
  have y:=aj o;refine lB 5 o (lL a ac (ag (kQ ?_)));cases e:((op:Int) == (2:Int))
  .
   have u:=aj e;refine lB 6 e (lL a ac (ag (cQ (aD ?_))));cases f:((op:Int) == (7:Int))
   .
    have C:=aj f;refine lB 8 f (lL a ac (ag (aD ?_)));cases c:((op:Int) == (8:Int))
    .
     have x:=aj c;refine lB 9 c (lL a ac (ag (aD ?_)));cases d:((op:Int) == (9:Int))
     .
      have D:=aj d;refine lB 10 d (lL a ac (ag (aD ?_)));cases p:((op:Int) == (10:Int))
      .
       have z:=aj p;refine lB 11 p (lL a ac (ag (kQ ?_)));cases j:((op:Int) == (11:Int))
       .
        have H:=aj j;refine lB 12 j (lL a ac (ag (cQ (aD ?_))));cases l:((op:Int) == (3:Int))
        .
         have B:=aj l;refine lB 14 l (lL a ac (ag (aD ?_)));cases i:((op:Int) == (4:Int))
         .
          have F:=aj i;refine lB 15 i (lL a ac (ag (aD ?_)));cases I:((op:Int) == (5:Int))
          .
           have Q:=aj I;refine lB 16 I (lL a ac (ag (aD ?_)));cases K:((op:Int) == (6:Int))
           .
            have O:=aj K;refine lB 17 K (lL a ac (ag (aD ?_)));cases J:((op:Int) == (12:Int))
            .
             have S:=aj J;refine lB 18 J (lL a ac (ag (kQ ?_)));cases L:((op:Int) == (13:Int))
             .
              have M:=aj L;exact lB 19 L (lL a ac (ag (cK (aa a ac (ae a [] (iV (-1)) (congrArg (Value.int .i64) (by have:=aE op;omega)))))))
             have M:=eq_of_beq L;exact lB 19 L (lL a ac (ak (aa a ac (ae a [] (iV 2) (congrArg (Value.int .i64) (by have:=aE op;omega))))))
            have S:=eq_of_beq J;exact lB 18 J (lL a ac (ak (cK (cn (aa a ac (ae a [] (iV 2) (congrArg (Value.int .i64) (by have:=aE op;omega))))))))
           have O:=eq_of_beq K;exact lB 17 K (lL a ac (ak (cK (cn (aa a ac (ae a [] (iV 2) (congrArg (Value.int .i64) (by have:=aE op;omega))))))))
          have Q:=eq_of_beq I;exact lB 16 I (lL a ac (ak (cK (cn (aa a ac (ae a [] (iV 2) (congrArg (Value.int .i64) (by have:=aE op;omega))))))))
         have F:=eq_of_beq i;exact lB 15 i (lL a ac (ak (cK (cn (aa a ac (ae a [] (iV 2) (congrArg (Value.int .i64) (by have:=aE op;omega))))))))
        have B:=eq_of_beq l;exact lB 14 l (lL a ac (ak (cK (cn (aa a ac (ae a [] (iV 2) (congrArg (Value.int .i64) (by have:=aE op;omega))))))))
       have H:=eq_of_beq j;exact lB 12 j (lL a ac (ak (aa a ac (ae a [] (iV 1) (congrArg (Value.int .i64) (by have:=aE op;omega))))))
      have z:=eq_of_beq p;exact lB 11 p (lL a ac (ak (cK (cn (aa a ac (ae a [] (iV 1) (congrArg (Value.int .i64) (by have:=aE op;omega))))))))
     have D:=eq_of_beq d;exact lB 10 d (lL a ac (ak (cK (cn (aa a ac (ae a [] (iV 1) (congrArg (Value.int .i64) (by have:=aE op;omega))))))))
    have x:=eq_of_beq c;exact lB 9 c (lL a ac (ak (cK (cn (aa a ac (ae a [] (iV 1) (congrArg (Value.int .i64) (by have:=aE op;omega))))))))
   have C:=eq_of_beq f;exact lB 8 f (lL a ac (ak (cK (cn (aa a ac (ae a [] (iV 1) (congrArg (Value.int .i64) (by have:=aE op;omega))))))))
  have u:=eq_of_beq e;exact lB 6 e (lL a ac (ak (aa a ac (ae a [] (iV 0) (congrArg (Value.int .i64) (by have:=aE op;omega))))))
 have y:=eq_of_beq o;exact lB 5 o (lL a ac (ak (cK (cn (aa a ac (ae a [] (iV 0) (congrArg (Value.int .i64) (by have:=aE op;omega))))))))
theorem D6 (z:Int)(A:Z9)(c:Nat)(w:World)(h:Hp)(g:G w h)(p:S3 A (lim (ab z)) h):CV 127 #[.agg #[.bool (af z),.slice A ((lim (ab z)).length) c]] w h (iV z.sign):=by
 have a:=((sS g).aS p);have j:0<(lim (ab z)).length↔0<ab z:=bR
 unfold ab at j
 refine go Tryz.func127 [(0,.agg #[.bool (af z),qS A ((lim (ab z)).length) c])] rfl (aD (lA 1 26 ([.bool (af z),qS A ((lim (ab z)).length) c]) a (fun l w2 u a=>lL a ac (ah (kZ (aa a [.v (qP l 1),.o (qS A ((lim (ab z)).length) c) 0 1 1,.v (nV ((lim (ab z)).length))] ?_))))));cases e:((((lim (ab z)).length:Nat):Int) == (0:Int))
 .
  have f:=aj e;refine lB 7 e (lL a ac (ag (aa a [.v (pB l),.o (.bool (af z)) 0 0 1,.c] (lN ?_))));cases d:(af z)
  .
   try rw[d] at a
   try rw[d]
   have i:=bc d;exact dC (cK (aa a ac (ae a [] (iV 1) (congrArg (Value.int .i64) (by first|(rw[show z=0 by (unfold ab at *;omega)];rfl)|exact (MY oM).symm|exact (MZ (by unfold ab at *;omega)).symm)))))
  try rw[d] at a
  try rw[d]
  have i:=bp d;exact cn (aa a ac (ae a [] (iV (-1)) (congrArg (Value.int .i64) (by first|(rw[show z=0 by (unfold ab at *;omega)];rfl)|exact (MY oM).symm|exact (MZ (by unfold ab at *;omega)).symm))))
 have f:=eq_of_beq e;exact lB 7 e (lL a ac (ak (aa a ac (ae a [] (iV 0) (congrArg (Value.int .i64) (by first|(rw[show z=0 by (unfold ab at *;omega)];rfl)|exact (MY oM).symm|exact (MZ (by unfold ab at *;omega)).symm))))))
theorem Kd (z:Int)(A:Z9)(c n:Nat)(D:Z9)(d:Nat)(p:(lim (ab z)).length<=c)(y:(lim n).length<=d)(w:World)(h:Hp)(g:G w h)(j:S3 A (lim (ab z)) h)(i:S3 D (lim n) h):CV 95 #[.agg #[.bool (af z),.slice A ((lim (ab z)).length) c,.slice D ((lim n).length) d]] w h (iV z.sign):=by
 have a:=(((sS g).aS j).aS i);exact go Tryz.func95 [(0,.agg #[.bool (af z),qS A ((lim (ab z)).length) c,qS D ((lim n).length) d])] rfl (aD (lA 1 28 ([.bool (af z),qS A ((lim (ab z)).length) c,qS D ((lim n).length) d]) a (fun e w2 l a=>lL a ac (aG (lL a [.v (pB e),.o (.agg #[.bool (af z),qS A ((lim (ab z)).length) c]) 0 0 2] (aq 5 a (D6 z A c _ _ a.g a.f.2.1) (fun u x a=>lL a ac (ae a [] (iV z.sign) rfl))))))))
theorem Fg (z:Int)(A:Z9)(c n:Nat)(D:Z9)(d:Nat)(y:(lim (ab z)).length<=c)(F:(lim n).length<=d)(w:World)(h:Hp)(g:G w h)(x:S3 A (lim (ab z)) h)(u:S3 D (lim n) h):CV 86 #[.agg #[.bool (af z),.slice A ((lim (ab z)).length) c,.slice D ((lim n).length) d]] w h (.bool (decide (n=0\/z=0))):=by
 have a:=(((sS g).aS x).aS u);have B:0<(lim n).length↔0<n:=bR;refine go Tryz.func86 [(0,.agg #[.bool (af z),qS A ((lim (ab z)).length) c,qS D ((lim n).length) d])] rfl (aD (lA 1 28 ([.bool (af z),qS A ((lim (ab z)).length) c,qS D ((lim n).length) d]) a (fun p w2 I a=>lL a ac (aG (lL a [.v (qP p 2),.o (qS D ((lim n).length) d) 0 2 1,.v (nV ((lim n).length))] ?_)))));cases e:((((lim n).length:Nat):Int) == (0:Int))
 .
  have j:=aj e;refine lB 6 e (lL a [.c,.o (.agg #[.bool (af z),qS A ((lim (ab z)).length) c,qS D ((lim n).length) d]) 0 0 3] (aq 9 a (Kd z A c n D d y F _ _ a.g a.f.2.1 a.f.1) (fun J H a=>?_)));have C:z.sign=0↔z=0:=Int.sign_eq_zero_iff_zero;cases i:((z.sign:Int) == (0:Int))
  .
   have l:=aj i;exact lB 10 i (lL a [.v qF,.c] (ae a [] qF (congrArg Value.bool (decide_eq_false oM).symm)))
  have l:=eq_of_beq i;exact lB 10 i (lL a [.v qT,.c] (ae a [] qT (congrArg Value.bool (decide_eq_true oM).symm)))
 have j:=eq_of_beq e;refine lB 6 e (lL a ac (lG 8 ?_));exact lG 9 (lG 10 (lL a [.v qT,.c] (ae a [] qT (congrArg Value.bool (decide_eq_true oM).symm))))
def fE (op n sum:Int):Int:=if op=11 then 2*sum else if op=8/\n≠0 then sum*(if n<0 then 0-n else n) else sum
theorem I8 {a n:Int}(h:0<=a/\a<=1073741824)(hn : -12<=n/\n<=12) : -12884901888<=a*n/\a*n<=12884901888:=by
 have h1:(a*n).natAbs<=1073741824*12:=by rw[MU];exact Nat.mul_le_mul oM oM
 omega
theorem D9 (op n a:Int)(z:0<=a/\a<=1073741824)(hn:op=8 -> -12<=n/\n<=12)(w:World)(h:Hp)(g:G w h):CV 87 #[iV op,iV n,iV a] w h (iV (min (fE op n a) 1073741824)):=by
 have d:=sS g;have e:min (a:Int) (1073741824:Int)=a:=by omega
 have M:=fun h8:op=8=>I8 z (hn h8)
 have K:=fun h8:op=8=>I8 (n:=0-n) z (by have:=hn h8;omega)
 rw[<-e] at M K
 have Q:n<=0->(min (a:Int) (1073741824:Int))*n<=0/\0<=(min (a:Int) (1073741824:Int))*(0-n):=fun L=>⟨Int.mul_nonpos_of_nonneg_of_nonpos oM L,ND oM oM⟩
 have S:0<=n->0<=(min (a:Int) (1073741824:Int))*n:=fun L=>ND oM L
 refine go Tryz.func87 [(0,iV op),(1,iV n),(2,iV a)] rfl (aa d ac (ah (kZ (aa d ac ?_))));cases u:((op:Int) == (11:Int))
 .
  have C:=aj u;refine lB 9 u (lL d ac (ag (aa d ac ?_)));cases f:((op:Int) == (8:Int))
  .
   have y:=aj f;refine lB 14 f (lL d ac (lG 16 ?_));refine lG 17 (lL d [.v qF,.c] (ag (cK (aa d ac (lV 34 (iV (min (a:Int) (1073741824:Int))) ?_ (hr:=aI (n:=(if (1073741824:Int)<(a:Int) then (1073741824:Int) else (a:Int))) kR (by simp only[fH])))))));exact lL d ac (ae d [] (iV (min (a:Int) (1073741824:Int))) (congrArg (Value.int .i64) (by unfold fE;first|(rw[if_pos oM]<;>omega)|(rw[if_neg oM,if_pos oM,if_pos oM]<;>rw[e] at * <;> omega)|(rw[if_neg oM,if_pos oM,if_neg oM]<;>rw[e] at * <;> omega)|(rw[if_neg oM,if_neg oM]<;>omega))))
  have y:=eq_of_beq f;refine lB 14 f (lL d ax ?_);cases j:((n:Int) != (0:Int))
  .
   have H:=aW j;refine lB 17 j (lL d [.v qF,.c] (ag (cK (aa d ac (lV 34 (iV (min (a:Int) (1073741824:Int))) ?_ (hr:=aI (n:=(if (1073741824:Int)<(a:Int) then (1073741824:Int) else (a:Int))) kR (by simp only[fH])))))));exact lL d ac (ae d [] (iV (min (a:Int) (1073741824:Int))) (congrArg (Value.int .i64) (by unfold fE;first|(rw[if_pos oM]<;>omega)|(rw[if_neg oM,if_pos oM,if_pos oM]<;>rw[e] at * <;> omega)|(rw[if_neg oM,if_pos oM,if_neg oM]<;>rw[e] at * <;> omega)|(rw[if_neg oM,if_neg oM]<;>omega))))
  have H:=aK j;refine lB 17 j (lL d [.v qT,.c] (ak (cQ (aa d ac ?_))));cases i:(decide ((n:Int)<(0:Int)))
  .
   have B:=oF i;refine lB 20 i (ag (cK (cQ (aa d ac ?_))));have ⟨J,O⟩:=dF (p:=(n:Int)<(0:Int)) oM;refine lB 24 J (lL d ax ?_);cases x:(decide ((1073741824:Int)<(n:Int)))
   .
    have D:=oF x;refine lB 27 x (lL d [.v qF] (ag (cK (kQ (lL d ac (lV 30 (iV (min (a:Int) (1073741824:Int))) ?_ (hr:=aI (n:=(if (1073741824:Int)<(a:Int) then (1073741824:Int) else (a:Int))) kR (by simp only[fH]))))))));refine lL d ac (lI 32 ((min (a:Int) (1073741824:Int))*n) ?_);refine lL d ac (aG (lL d ac (lV 34 (iV (min ((min (a:Int) (1073741824:Int))*n:Int) (1073741824:Int))) ?_ (hr:=aI (n:=(if (1073741824:Int)<((min (a:Int) (1073741824:Int))*n:Int) then (1073741824:Int) else ((min (a:Int) (1073741824:Int))*n:Int))) kR (by simp only[fH])))));exact lL d ac (ae d [] (iV (min ((min (a:Int) (1073741824:Int))*n:Int) (1073741824:Int))) (congrArg (Value.int .i64) (by unfold fE;first|(rw[if_pos oM]<;>omega)|(rw[if_neg oM,if_pos oM,if_pos oM]<;>rw[e] at * <;> omega)|(rw[if_neg oM,if_pos oM,if_neg oM]<;>rw[e] at * <;> omega)|(rw[if_neg oM,if_neg oM]<;>omega))))
   have D:=oT x;refine lB 27 x (lL d [.v qT] (ak (kQ (lL d ac (lN (kQ (lL d ac (lV 30 (iV (min (a:Int) (1073741824:Int))) ?_ (hr:=aI (n:=(if (1073741824:Int)<(a:Int) then (1073741824:Int) else (a:Int))) kR (by simp only[fH]))))))))));refine lL d ac (lI 32 ((min (a:Int) (1073741824:Int))*1073741824) ?_);refine lL d ac (aG (lL d ac (lV 34 (iV (min ((min (a:Int) (1073741824:Int))*1073741824:Int) (1073741824:Int))) ?_ (hr:=aI (n:=(if (1073741824:Int)<((min (a:Int) (1073741824:Int))*1073741824:Int) then (1073741824:Int) else ((min (a:Int) (1073741824:Int))*1073741824:Int))) kR (by simp only[fH])))));exact lL d ac (ae d [] (iV (min ((min (a:Int) (1073741824:Int))*1073741824:Int) (1073741824:Int))) (congrArg (Value.int .i64) (by unfold fE;first|(rw[if_pos oM]<;>omega)|(rw[if_neg oM,if_pos oM,if_pos oM]<;>rw[e] at * <;> omega)|(rw[if_neg oM,if_pos oM,if_neg oM]<;>rw[e] at * <;> omega)|(rw[if_neg oM,if_neg oM]<;>omega))))
  have B:=oT i;refine lB 20 i (ak (kQ (lL d ac (lI 22 (0-n) ?_))));refine lL d ac (ah (aa d ac ?_));cases l:(decide ((0-n:Int)<(0:Int)))
  .
   have I:=oF l;refine lB 24 l (lL d ax ?_);cases o:(decide ((1073741824:Int)<(0-n:Int)))
   .
    have F:=oF o;refine lB 27 o (lL d [.v qF] (ag (cK (kQ (lL d ac (lV 30 (iV (min (a:Int) (1073741824:Int))) ?_ (hr:=aI (n:=(if (1073741824:Int)<(a:Int) then (1073741824:Int) else (a:Int))) kR (by simp only[fH]))))))));refine lL d ac (lI 32 ((min (a:Int) (1073741824:Int))*(0-n)) ?_);refine lL d ac (aG (lL d ac (lV 34 (iV (min ((min (a:Int) (1073741824:Int))*(0-n):Int) (1073741824:Int))) ?_ (hr:=aI (n:=(if (1073741824:Int)<((min (a:Int) (1073741824:Int))*(0-n):Int) then (1073741824:Int) else ((min (a:Int) (1073741824:Int))*(0-n):Int))) kR (by simp only[fH])))));exact lL d ac (ae d [] (iV (min ((min (a:Int) (1073741824:Int))*(0-n):Int) (1073741824:Int))) (congrArg (Value.int .i64) (by unfold fE;first|(rw[if_pos oM]<;>omega)|(rw[if_neg oM,if_pos oM,if_pos oM]<;>rw[e] at * <;> omega)|(rw[if_neg oM,if_pos oM,if_neg oM]<;>rw[e] at * <;> omega)|(rw[if_neg oM,if_neg oM]<;>omega))))
   have F:=oT o;refine lB 27 o (lL d [.v qT] (ak (kQ (lL d ac (lN (kQ (lL d ac (lV 30 (iV (min (a:Int) (1073741824:Int))) ?_ (hr:=aI (n:=(if (1073741824:Int)<(a:Int) then (1073741824:Int) else (a:Int))) kR (by simp only[fH]))))))))));refine lL d ac (lI 32 ((min (a:Int) (1073741824:Int))*1073741824) ?_);refine lL d ac (aG (lL d ac (lV 34 (iV (min ((min (a:Int) (1073741824:Int))*1073741824:Int) (1073741824:Int))) ?_ (hr:=aI (n:=(if (1073741824:Int)<((min (a:Int) (1073741824:Int))*1073741824:Int) then (1073741824:Int) else ((min (a:Int) (1073741824:Int))*1073741824:Int))) kR (by simp only[fH])))));exact lL d ac (ae d [] (iV (min ((min (a:Int) (1073741824:Int))*1073741824:Int) (1073741824:Int))) (congrArg (Value.int .i64) (by unfold fE;first|(rw[if_pos oM]<;>omega)|(rw[if_neg oM,if_pos oM,if_pos oM]<;>rw[e] at * <;> omega)|(rw[if_neg oM,if_pos oM,if_neg oM]<;>rw[e] at * <;> omega)|(rw[if_neg oM,if_neg oM]<;>omega))))
  have I:=oT l;refine lB 24 l (lL d ac (lG 26 ?_));refine lG 27 (lL d [.v qT] (ak (kQ (lL d ac (lN (kQ (lL d ac (lV 30 (iV (min (a:Int) (1073741824:Int))) ?_ (hr:=aI (n:=(if (1073741824:Int)<(a:Int) then (1073741824:Int) else (a:Int))) kR (by simp only[fH]))))))))));refine lL d ac (lI 32 ((min (a:Int) (1073741824:Int))*1073741824) ?_);refine lL d ac (aG (lL d ac (lV 34 (iV (min ((min (a:Int) (1073741824:Int))*1073741824:Int) (1073741824:Int))) ?_ (hr:=aI (n:=(if (1073741824:Int)<((min (a:Int) (1073741824:Int))*1073741824:Int) then (1073741824:Int) else ((min (a:Int) (1073741824:Int))*1073741824:Int))) kR (by simp only[fH])))));exact lL d ac (ae d [] (iV (min ((min (a:Int) (1073741824:Int))*1073741824:Int) (1073741824:Int))) (congrArg (Value.int .i64) (by unfold fE;first|(rw[if_pos oM]<;>omega)|(rw[if_neg oM,if_pos oM,if_pos oM]<;>rw[e] at * <;> omega)|(rw[if_neg oM,if_pos oM,if_neg oM]<;>rw[e] at * <;> omega)|(rw[if_neg oM,if_neg oM]<;>omega))))
 have C:=eq_of_beq u;refine lB 9 u (lL d ac (ak (kQ (lL d ac (lI 11 (2*a) ?_)))));refine lL d ac (aG (lL d ac (lV 34 (iV (min (2*a:Int) (1073741824:Int))) ?_ (hr:=aI (n:=(if (1073741824:Int)<(2*a:Int) then (1073741824:Int) else (2*a:Int))) kR (by simp only[fH])))));exact lL d ac (ae d [] (iV (min (2*a:Int) (1073741824:Int))) (congrArg (Value.int .i64) (by unfold fE;first|(rw[if_pos oM]<;>omega)|(rw[if_neg oM,if_pos oM,if_pos oM]<;>rw[e] at * <;> omega)|(rw[if_neg oM,if_pos oM,if_neg oM]<;>rw[e] at * <;> omega)|(rw[if_neg oM,if_neg oM]<;>omega))))
end Go.Proofs.YtlidpooijdogdaaGreatDoor
