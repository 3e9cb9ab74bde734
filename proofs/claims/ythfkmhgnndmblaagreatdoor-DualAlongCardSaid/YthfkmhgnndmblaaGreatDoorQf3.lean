/- Laws of this claim, part 4. -/
import Derived.Test.YthfkmhgnndmblaaGreatDoorQf0
import Derived.Test.YthfkmhgnndmblaaGreatDoorQf1
import Derived.Test.YthfkmhgnndmblaaGreatDoorQf2
set_option maxRecDepth 100000
set_option maxHeartbeats 4000000
namespace Go.Proofs.YthfkmhgnndmblaaGreatDoor
open Int renaming divExact_eq_ediv -> Nd, dvd_refl -> Na, dvd_trans -> M7, emod_lt_of_pos -> NC, emod_nonneg -> NB, lt_or_le -> ND, lt_trichotomy -> M0, mul_ediv_cancel_left -> MZ, mul_ne_zero -> Nv, mul_neg_of_neg_of_pos -> Nq, mul_pos -> Nr, natAbs_add_le -> Nm, natAbs_dvd -> M9, natAbs_mul -> MX, natAbs_natCast -> MY, natAbs_neg -> Np, natCast_dvd_natCast -> M8, sign_eq_neg_one_of_neg -> M1, sign_eq_one_of_pos -> M3, tmod_eq_emod_of_nonneg -> NE
open List renaming drop_eq_nil_of_le -> Mq, drop_zero -> yh, getD_eq_getElem?_getD -> LM, getElem?_eq_none -> s9, getElem?_set_ne -> tz, length -> Mt, length_drop -> LZ, length_set -> Mg, length_take -> Lu, mem_cons -> g2, mem_cons_self -> MG, mem_singleton -> sy, replicate -> zY, set_set -> ME, take_of_length_le -> LU, take_set -> MQ, toArray -> MU
open Nat renaming add_zero -> wj, divExact_eq_div -> Nf, div_le_self -> Gb, eq_zero_or_pos -> Au, gcd -> MC, gcd_comm -> MD, gcd_dvd_left -> M5, gcd_dvd_right -> M6, gcd_le_left -> MT, gcd_le_right -> Nl, gcd_pos_of_pos_right -> M4, gcd_zero_right -> MW, le_mul_of_pos_left -> MS, le_of_lt -> MV, le_trans -> ep, lt_of_le_of_lt -> Ga, lt_or_ge -> dS, mod_lt -> z2, mul_assoc -> Ls, mul_div_cancel_left -> MR, mul_zero -> Lw, pow_zero -> MA, two_pow_pos -> Lz, zero_le -> My, zero_mod -> Mh
open Rat renaming add -> Nb, den_intCast -> Ni, intCast_natCast -> Nu, maybeNormalize -> Nc, mkRat_eq_div -> Nt, mkRat_self -> Nx, mul -> Ng, neg_den -> Nk, neg_num -> Nj, normalize_eq_mkRat -> Ns, num_eq_zero -> Nz, num_intCast -> Nh, sub_eq_add_neg -> Ny
open Go.RowKit
open Go.RowKit Go.Shelf
theorem EZ (A:Z9)(c:Nat)(l:List Nat)(n:Nat)(hn:l.length=n)(C:l.length<=1099511627776)(F:l.length<=c)(w:World)(h:Hp)(g:G w h)(z:SlO 1 ar 0 h A l):CV 192 #[.slice A n c] w h (.slice A (tl l n) c):=by
 have a:=((sS g).aS z);refine go Tryz.func192 [(0,qS A n c)] rfl (aa a ac (ag (kZ ?_)));refine bH _ (CG.loop (fun o Γ u=>∃ (m:Nat)(p:Hp),o=m/\Γ=[(2,sZ),(0,qS A m c)]/\SS w h u p [] [] [fun p=>SlO 1 ar 0 p A l]/\m<=n/\tl l n=tl l m) _ ⟨n,h,rfl,rfl,a.to _ _,nR _,rfl⟩ ?_);rintro _ _ w1 ⟨m,x,y,rfl,a,H,j⟩;refine cQ (aa a [.c,.v (nV m)] ?_);cases b:(decide ((0:Int)<(m:Int)))
 .
  have e:=oF b;refine lB 5 b (lL a ac (lG 7 ?_));refine lG 8 (lG 9 (lG 10 (lG 11 (lG 12 (lG 13 (lL a [.v qF] (ah (CG.exit ?_))))))))
  show CG _ _ _ _ _ _ _ _
  exact aa a aD (ae a [] (qS A m c) (by rw[j,nr oM]))
 have e:=oT b;refine lB 5 b (lL a [.c,.c,.c,.v (nV m)] (bp 10 ((m:Nat)-1) (m-1) ?_));refine lX 11 A m c 1 (m-1:Nat) (m-1) ((a.f.1).ok oM) (lH 12 (mV (l.getD (m-1) 0)) a ((a.f.1).el (m-1) oM) ?_);cases d:(((l.getD (m-1) 0:Nat):Int) == (0:Int))
 .
  have i:=aj d;refine lB 13 d (lL a [.v qF] (ah (CG.exit ?_)))
  show CG _ _ _ _ _ _ _ _
  exact aa a aD (ae a [] (qS A m c) (by rw[j,nr oM]))
 have i:=eq_of_beq d;refine lB 13 d (lL a [.v qT] (am (cK (kZ (kQ (lL a [.c,.c,.v (nV m)] (bp 18 ((m:Nat)-1) (m-1) ?_)))))));refine lT 19 A m c 1 (m-1:Nat) (m-1) (lL a ac (lD ?_));intro D B;refine ⟨_,_,?_,⟨m-1,x,rfl,rfl,a.to _ _,oM,(by rw[j];exact xF oM oM)⟩,B.to _ kR⟩
 omega
theorem BT (A:Z9)(c:Nat)(D:Z9)(d:Nat)(x y n e:Nat)(hn:(wds x).length=n)(L:(wds y).length=e)(W:(wds x).length<=1000000000)(J:(wds y).length<=1000000000)(w:World)(h:Hp)(g:G w h)(S:SlO 1 ar 0 h A (wds x))(K:SlO 1 ar 0 h D (wds y)):CV 166 #[.slice A n c,.slice D e d] w h (iV (bZ x y)):=by
 have a:=(((sS g).aS S).aS K);refine go Tryz.func166 [(0,qS A n c),(1,qS D e d)] rfl (aa a ac (ag (aa a [.c,.v (nV n),.c,.v (nV e)] ?_)));cases l:((n:Int) != (e:Int))
 .
  have u:=aJ l;refine lB 10 l (ah (cK (cQ (aa a [.c,.v (nV n)] (lV 18 (iV ((n:Int)-1)) ?_ (hr:=rS (((n:Nat)-1)) kR ((gK oM oM).trans oM)))))));refine lL a ac (aZ ?_);refine bH _ (CG.loop (fun H Γ I=>∃ (m:Nat)(z:Hp),H=m/\Γ=[(0,qS A n c),(1,qS D e d),(5,iV ((m:Int)-1))]/\SS w h I z [] [] [fun z=>SlO 1 ar 0 z D (wds y),fun z=>SlO 1 ar 0 z A (wds x)]/\m<=n/\(wds x).length=(wds y).length/\(wds x).drop m=(wds y).drop m) _ ⟨n,h,rfl,rfl,a.to _ _,nR _,oM,(by rw[Mq oM,Mq oM])⟩ ?_);rintro _ _ w2 ⟨m,Y,M,rfl,a,hm,b,i⟩;refine cQ (aa a ac ?_);cases j:(decide ((0:Int)<=((m:Int)-1:Int)))
  .
   have B:=oF j;refine lB 20 j (ah (CG.exit ?_))
   show CG _ _ _ _ _ _ _ _
   exact aa a ac (ae a [] (iV 0) (by rw[iy (FY (by rw[show m=0 by omega] at i;simpa using i))]))
  have B:=oT j;refine lB 20 j (am (cK (cQ (kZ (cQ (cR 9 [] mixed a ao ?_))))));refine eV 0 23 (qS A n c) (eV 1 24 (iV ((m:Int)-1)) (eX 2 25 A n c 1 ((m:Int)-1) (m-1) ((a.f.2.1).ok oM) (eH 3 26 (mV ((wds x).getD (m-1) 0)) a ((a.f.2.1).el (m-1) oM) (eV 4 27 (qS D e d) (eV 5 28 (iV ((m:Int)-1)) (eX 6 29 D e d 1 ((m:Int)-1) (m-1) ((a.f.1).ok oM) (eH 7 30 (mV ((wds y).getD (m-1) 0)) a ((a.f.1).el (m-1) oM) ?_)))))));cases o:((((wds x).getD (m-1) 0:Nat):Int) != (((wds y).getD (m-1) 0:Nat):Int))
  .
   have p:=aJ o;refine eB 8 31 o (bU a (fun X O a=>tN (dD (cK (kQ (lL a ac (lV 22 (iV (((m-1:Nat):Int)-1)) ?_ (hr:=rS ((((m:Int)-1)-1)) kR ((gK oM oM).trans oM)))))))));refine lL a ac (lD ?_);intro Z V;refine ⟨_,_,?_,⟨m-1,O,rfl,rfl,a.to _ _,oM,b,(fO (k:=m-1) b oM (by rw[show m-1+1=m by omega];exact i) oM)⟩,V.to _ kR⟩
   omega
  have p:=aI o;refine eB 8 31 o (bU a (fun _ _ a=>tN (ct (cQ (cQ (cR 9 [] mixed a ao ?_))))));refine eV 0 32 (qS A n c) (eV 1 33 (iV ((m:Int)-1)) (eX 2 34 A n c 1 ((m:Int)-1) (m-1) ((a.f.2.1).ok oM) (eH 3 35 (mV ((wds x).getD (m-1) 0)) a ((a.f.2.1).el (m-1) oM) (eV 4 36 (qS D e d) (eV 5 37 (iV ((m:Int)-1)) (eX 6 38 D e d 1 ((m:Int)-1) (m-1) ((a.f.1).ok oM) (eH 7 39 (mV ((wds y).getD (m-1) 0)) a ((a.f.1).el (m-1) oM) ?_)))))));cases C:(decide ((((wds x).getD (m-1) 0:Nat):Int)<(((wds y).getD (m-1) 0:Nat):Int)))
  .
   have U:=oF C;exact eB 8 40 C (bU a (fun _ _ a=>tN (dD (cK (aa a ac (ae a [] (iV 1) (by rw[<-kV (k:=m-1) b oM (by rw[show m-1+1=m by omega];exact i) oM,fK oM])))))))
  have U:=oT C;exact eB 8 40 C (bU a (fun _ _ a=>tN (ct (aa a ac (ae a [] (iV (-1)) (by rw[<-kV (k:=m-1) b oM (by rw[show m-1+1=m by omega];exact i) oM,dZ oM]))))))
 have u:=aI l;refine lB 10 l (am (cQ (aa a [.c,.v (nV n),.c,.v (nV e)] ?_)));cases F:(decide ((n:Int)<(e:Int)))
 .
  have Q:=oF F;exact lB 15 F (ah (cK (aa a ac (ae a [] (iV 1) (by rw[fK (gF oM)])))))
 have Q:=oT F;exact lB 15 F (am (aa a ac (ae a [] (iV (-1)) (by rw[dZ (gF oM)]))))
theorem wq (n:Nat)(hn:0<n)(hl:(wds n).length<=1000000000)(w:World)(h:Hp)(g:G w h):CR 163 #[nv n] w h (fun v h1=>C4 h h1 v (wds n)):=by
 have e:=sS g;have hnb:=mH n;have hwl:=mR n;have hbl:=jX n ((nb n+7)/8);have W:=(cB hn).2.2;refine go Tryz.func163 [(0,nv n)] rfl (ax (lA 1 40 (nc n) e (fun K w2 h3 e=>lL e ac (aG (lL e [.o (nv n) 0 0 2] (lC 7 e (Bz n hl _ _ e.g) ?_))))));rintro _ w4 h5 e ⟨p,rfl,hb⟩;replace e:=e.aS hb;refine lL e ac (aG (lL e [.c,.v (nV ((nb n+7)/8))] (bp 10 ((((nb n+7)/8):Nat)+7) ((((nb n+7)/8):Nat)+7) ?_)));refine lV 11 (nV (((((nb n+7)/8):Nat)+7:Nat)/8)) ?_ (hr:=aK (dB (t:=3) (u:=3) (x:=.tmp 10) (y:=.const (iV 8)) (k:=.i64) (a:=(((((nb n+7)/8):Nat)+7:Nat):Int)) (b:=(8:Int)) kR kR kR oM _) (dG ((((nb n+7)/8):Nat)+7:Nat) 8 oM));refine lK 12 38 (((((nb n+7)/8):Nat)+7:Nat)/8:Nat) 1 8 (uV 0) ar 0 e (fun j w7 h8 e=>?_);have I:(zY (((((nb n+7)/8):Nat)+7:Nat)/8:Nat) 0).length=(((((nb n+7)/8):Nat)+7:Nat)/8:Nat):=by simp
 refine lL e ac (ag (aa e [.c,.v (nV ((nb n+7)/8)),.c] (aZ ?_)));refine bH _ (CG.loop (fun L Γ Y=>∃ (i:Nat)(l:List Nat)(S:Hp),L=((nb n+7)/8)-i/\Γ=[(2,sZ),(3,qS p ((nb n+7)/8) ((nb n+7)/8)),(4,qS (sB j) (((((nb n+7)/8):Nat)+7:Nat)/8:Nat) (((((nb n+7)/8):Nat)+7:Nat)/8:Nat)),(14,nV ((nb n+7)/8)),(15,nV i)]/\SS w h Y S [⟨j,38,(l).flatMap ar⟩,⟨K,40,nc n⟩] [] [fun S=>SlO 1 ne 0 S p (fy n ((nb n+7)/8))]/\i<=((nb n+7)/8)/\l.length=(((nb n+7)/8)+7)/8/\Wd l/\aA l=n%256^i) _ ⟨0,zY (((((nb n+7)/8):Nat)+7:Nat)/8:Nat) 0,h8,rfl,rfl,e.to _ _,My _,I,Wd.rep _,(by show ai _ _=_;rw[dN,MA,Nat.mod_one])⟩ ?_);rintro _ _ _ ⟨i,l,_,X,rfl,e,hi,C,J,inv⟩;have hbi:=kE n ((nb n+7)/8) (((nb n+7)/8)-1-i);refine ax ?_;cases F:(decide ((i:Int)<((((nb n+7)/8):Nat):Int)))
 .
  have zb:=oF F;refine lB 16 F (ag (dD (CG.exit ?_)))
  show CG _ _ _ _ _ _ _ _
  refine aa e aD (lN (kX ?_));have M:i=((nb n+7)/8):=by omega
  have V:aA l=n:=by rw[inv,M];exact Nat.mod_eq_of_lt (xj n)
  have U:l=wds n:=by rw[<-V];exact (xS J (by rw[C,V];omega)).symm
  rw[U] at e
  obtain ⟨_,e,D,B,z⟩:=e.pub 0;replace e:=(e.to [⟨K,40,nc n⟩] []).aS (SlO.of_flat (sz:=1) (f:=ar) (d:=0) (b:=j) (o:=0) (l:=wds n) (fun _=>rfl) D);exact e.ret [] (qS (sB j) (((((nb n+7)/8):Nat)+7:Nat)/8:Nat) (((((nb n+7)/8):Nat)+7:Nat)/8:Nat)) (⟨j,(by rw[show (((nb n+7)/8)+7)/8=(wds n).length by omega]),B,z,e.f.1⟩)
 have zb:=oT F;refine lB 16 F (ag (ct (cK (cQ (kZ (aa e aD (lN (cR 19 [] mixed e ao ?_))))))));refine eV 0 18 (qS (sB j) (((((nb n+7)/8):Nat)+7:Nat)/8:Nat) (((((nb n+7)/8):Nat)+7:Nat)/8:Nat)) (eV 1 19 (nV i) (eV 2 20 (nV (i/8)) ?_ (hv:=fun _=>aK (dB (t:=3) (u:=3) (x:=.tmp 19) (y:=.const (iV 8)) (k:=.i64) (a:=(i:Int)) (b:=(8:Int)) kR kR kR oM _) (dG i 8 oM))));refine eX 3 21 (sB j) (((((nb n+7)/8):Nat)+7:Nat)/8:Nat) (((((nb n+7)/8):Nat)+7:Nat)/8:Nat) 1 (i/8:Nat) (i/8) rfl (eQ 4 22 0 l ar 1 0 (i/8) (mV ((l).getD (i/8) 0)) e oM (eV 5 23 (qS p ((nb n+7)/8) ((nb n+7)/8)) (eV 6 24 (qS p ((nb n+7)/8) ((nb n+7)/8)) (eV 7 25 (nV ((nb n+7)/8)) (jG 8 26 ((((nb n+7)/8):Nat)-1) ((((nb n+7)/8):Nat)-1) (eV 9 27 (nV i) (jG 10 28 (((((nb n+7)/8):Nat)-1:Nat)-(i:Nat)) (((((nb n+7)/8):Nat)-1:Nat)-i) (eX 11 29 p ((nb n+7)/8) ((nb n+7)/8) 1 (((((nb n+7)/8):Nat)-1:Nat)-i:Nat) (((((nb n+7)/8):Nat)-1:Nat)-i:Nat) ((e.f.1).ok oM) (eH 12 30 (.int .u8 ((fy n ((nb n+7)/8)).getD (((((nb n+7)/8):Nat)-1:Nat)-i:Nat) 0:Nat)) e ((e.f.1).el (((((nb n+7)/8):Nat)-1:Nat)-i:Nat) oM) (eV 13 31 (mV ((fy n ((nb n+7)/8)).getD (((((nb n+7)/8):Nat)-1:Nat)-i:Nat) 0)) ?_ (hv:=fun _=>rU ((((fy n ((nb n+7)/8)).getD (((((nb n+7)/8):Nat)-1:Nat)-i:Nat) 0:Nat):Int)) kR (bc oM oM))))))))))));refine eV 14 32 (nV i) (eV 15 33 (nV (i%8)) ?_ (hv:=fun _=>aK (fj (t:=3) (u:=3) (x:=.tmp 32) (y:=.const (iV 8)) (k:=.i64) (a:=(i:Int)) (b:=(8:Int)) kR kR kR oM _) (dq i 8)));refine jG 16 34 (8*(i%8:Nat)) (8*(i%8)) (eV 17 35 (mV (((fy n ((nb n+7)/8)).getD (((((nb n+7)/8):Nat)-1:Nat)-i:Nat) 0:Nat)*2^(8*(i%8))%18446744073709551616)) ?_ (hv:=fun _=>ie (t:=38) (u:=3) (x:=.tmp 31) (y:=.tmp 34) (ky:=.i64) (a:=((fy n ((nb n+7)/8)).getD (((((nb n+7)/8):Nat)-1:Nat)-i:Nat) 0:Nat)) (n:=(8*(i%8))) kR kR kR _));obtain ⟨O,H,Q⟩:=tG oM inv (show (fy n ((nb n+7)/8)).getD (((nb n+7)/8)-1-i) 0=n/256^i%256 by rw[jc n ((nb n+7)/8) _ oM,show ((nb n+7)/8)-1-(((nb n+7)/8)-1-i)=i by omega]);have Z:=J.get (i/8);refine eV 18 36 (mV (l.getD (i/8) 0+(fy n ((nb n+7)/8)).getD (((nb n+7)/8)-1-i) 0*2^(8*(i%8)))) ?_ (hv:=fun _=>aK (iw (t:=38) (u:=38) (x:=.tmp 22) (y:=.tmp 35) (a:=((l).getD (i/8) 0)) (b:=(((fy n ((nb n+7)/8)).getD (((((nb n+7)/8):Nat)-1:Nat)-i:Nat) 0:Nat)*2^(8*(i%8))%18446744073709551616:Nat)) kR kR kR oM oM _) (by rw[O]));refine bU e (fun _ zd e=>tX 19 37 (sB j) (((((nb n+7)/8):Nat)+7:Nat)/8:Nat) (((((nb n+7)/8):Nat)+7:Nat)/8:Nat) 1 (i/8:Nat) (i/8) rfl (tW 20 0 l ar 1 (i/8) (l.getD (i/8) 0+(fy n ((nb n+7)/8)).getD (((nb n+7)/8)-1-i) 0*2^(8*(i%8)):Nat) e oM (fun _ e=>?_)));have zc:((l).set (i/8) (l.getD (i/8) 0+(fy n ((nb n+7)/8)).getD (((nb n+7)/8)-1-i) 0*2^(8*(i%8)):Nat)).length=(((((nb n+7)/8):Nat)+7:Nat)/8:Nat):=by rw[Mg];exact C
 replace e:=e.to [⟨j,38,((l).set (i/8) (l.getD (i/8) 0+(fy n ((nb n+7)/8)).getD (((nb n+7)/8)-1-i) 0*2^(8*(i%8)):Nat)).flatMap ar⟩,⟨K,40,nc n⟩] [];refine tN (kQ (bp 38 ((i:Nat)+1) (i+1) ?_));refine lL e ac (lD ?_);intro a_ ka;refine ⟨_,_,?_,⟨i+1,(l).set (i/8) (l.getD (i/8) 0+(fy n ((nb n+7)/8)).getD (((nb n+7)/8)-1-i) 0*2^(8*(i%8)):Nat),zd,rfl,rfl,e.to _ _,oM,zc,(J.set _ H),Q⟩,ka.to _ kR⟩
 omega
theorem Dd (A:Z9)(c:Nat)(l:List Nat)(n:Nat)(hn:l.length=n)(I:Wd l)(hl:l.length<=1000000000)(w:World)(h:Hp)(g:G w h)(Z:SlO 1 ar 0 h A l):CV 168 #[.slice A n c] w h (nv (aA l)):=by
 have e:=((sS g).aS Z);refine go Tryz.func168 [(0,qS A n c)] rfl (ax (lA 2 40 ([uV 0,eS]) e (fun D w2 h3 e=>aG (lL e [.c,.v (nV n)] (bp 7 (8*(n:Nat)) (8*n) ?_)))));refine lK 8 5 (8*n) 1 1 (.int .u8 0) ne 0 e (fun B w5 W e=>?_);have H:(zY (8*n) 0).length=(8*n):=by simp
 refine lL e ac (ag (aa e [.c,.v (nV (8*n)),.c] (aZ ?_)));refine bH _ (CG.loop (fun J Γ V=>∃ (i:Nat)(z:List Nat)(L:Hp),J=8*n-i/\Γ=[(0,qS A n c),(2,pB D),(3,qS (sB B) (8*n) (8*n)),(10,nV (8*n)),(11,nV i)]/\SS w h V L [⟨B,5,(z).flatMap ne⟩,⟨D,40,[uV 0,eS]⟩] [] [fun L=>SlO 1 ar 0 L A l]/\i<=8*n/\z.length=8*n/\(∀ j,j<i->z.getD (8*n-1-j) 0=aA l/256^j%256)) _ ⟨0,zY (8*n) 0,W,rfl,rfl,e.to _ _,My _,H,(fun j S=>absurd S oM)⟩ ?_);rintro _ _ w8 ⟨i,z,h9,U,rfl,e,hi,p,M⟩;have X:=I.get (i/8);refine ax ?_;cases F:(decide ((i:Int)<(((8*n):Nat):Int)))
 .
  have zb:=oF F;refine lB 12 F (ag (dD (CG.exit ?_)))
  show CG _ _ _ _ _ _ _ _
  refine aa e ac ?_;have Y:i=8*n:=by omega
  have K:z=fy (aA l) (8*n):=tc p (fun j S=>M j oM);rw[K] at e
  obtain ⟨_,e,C,Q,O⟩:=e.pub 0;replace e:=(e.to [⟨D,40,[uV 0,eS]⟩] []).aS (SlO.of_flat (sz:=1) (f:=ne) (d:=0) (b:=B) (o:=0) (l:=fy (aA l) (8*n)) (fun _=>rfl) C);exact aq 33 e (AI (aA l) (8*n) (sB B) (8*n) oM oM (by have:=KH I;rwa [hn] at this) _ _ e.g e.f.1) (fun _ _ e=>lP 0 0 (nc (aA l)) e (fun _ e=>ae e [(0,0,2)] (nv (aA l)) rfl))
 have zb:=oT F;refine lB 12 F (ag (ct (cK (cQ (kZ (aa e aD (lN (kQ (lL e [.c,.c,.v (nV (8*n))] (bp 17 (((8*n):Nat)-1) ((8*n)-1) ?_))))))))));refine lL e ac (bp 19 (((8*n)-1:Nat)-(i:Nat)) (((8*n)-1)-i) ?_);refine lL e aD (lV 22 (nV (i/8)) ?_ (hr:=aK (dB (t:=3) (u:=3) (x:=.tmp 21) (y:=.const (iV 8)) (k:=.i64) (a:=(i:Int)) (b:=(8:Int)) kR kR kR oM _) (dG i 8 oM)));refine lX 23 A n c 1 (i/8:Nat) (i/8) ((e.f.1).ok oM) (lH 24 (mV (l.getD (i/8) 0)) e ((e.f.1).el (i/8) oM) (lL e ac (lV 26 (nV (i%8)) ?_ (hr:=aK (fj (t:=3) (u:=3) (x:=.tmp 25) (y:=.const (iV 8)) (k:=.i64) (a:=(i:Int)) (b:=(8:Int)) kR kR kR oM _) (dq i 8)))));refine bp 27 (8*(i%8:Nat)) (8*(i%8)) (lV 28 (mV ((l.getD (i/8) 0)/2^(8*(i%8)))) ?_ (hr:=gL (t:=38) (u:=3) (x:=.tmp 24) (y:=.tmp 27) (ky:=.i64) (a:=(l.getD (i/8) 0)) (n:=(8*(i%8))) kR kR kR oM _));refine lV 29 (.int .u8 (l.getD (i/8) 0/2^(8*(i%8))%256:Nat)) ?_ (hr:=aK (n:=IntKind.wrap .u8 ((l.getD (i/8) 0/2^(8*(i%8)):Nat):Int)) kR (C9 _));refine lX 30 (sB B) (8*n) (8*n) 1 (((8*n)-1)-i:Nat) (((8*n)-1)-i:Nat) rfl (lW 0 z ne 1 (((8*n)-1)-i:Nat) (l.getD (i/8) 0/2^(8*(i%8))%256:Nat) e oM (fun _ e=>?_));have zc:((z).set (((8*n)-1)-i:Nat) (l.getD (i/8) 0/2^(8*(i%8))%256:Nat)).length=(8*n):=by rw[Mg];exact p
 replace e:=e.to [⟨B,5,((z).set (((8*n)-1)-i:Nat) (l.getD (i/8) 0/2^(8*(i%8))%256:Nat)).flatMap ne⟩,⟨D,40,[uV 0,eS]⟩] [];refine lN (kQ (bp 31 ((i:Nat)+1) (i+1) ?_));refine lL e ac (lD ?_);intro a_ ka;refine ⟨_,_,?_,⟨i+1,(z).set (((8*n)-1)-i:Nat) (l.getD (i/8) 0/2^(8*(i%8))%256:Nat),h9,rfl,rfl,e.to _ _,oM,zc,(hC p oM M (q9 I i))⟩,ka.to _ kR⟩
 omega
def win (l:List Nat)(o n:Nat):List Nat:=(l.drop o).take n
theorem bL {l:List Nat}{o n:Nat}(h:o+n<=l.length):(win l o n).length=n:=by unfold win;rw[Lu,LZ];omega
theorem t8 {l:List Nat}{o n j:Nat}(h:j<n):(win l o n).getD j 0=l.getD (o+j) 0:=by unfold win;rw[ju h,bE]
theorem k9 {l:List Nat}{o n i x:Nat}(hi:i<n):win (l.set (o+i) x) o n=(win l o n).set i x:=by
 unfold win
 rw[List.drop_set,if_neg oM,MQ,show o+i-o=i by omega]
theorem xT {l:List Nat}{o n q:Nat}:(win l o n).drop q=win l (o+q) (n-q):=by
 unfold win;rw[List.drop_take,List.drop_drop]
theorem qR {l:List Nat}{o n m:Nat}(h:m<=n):(win l o n).take m=win l o m:=by
 unfold win;rw[List.take_take,Nat.min_eq_left h]
theorem tM (l:List Nat)(n:Nat)(h:l.length<=n):win l 0 n=l:=by unfold win;rw[yh,LU h]
theorem Wd.win {l:List Nat}(h:Wd l)(o n:Nat):Wd (win l o n):=Dg.take (Dg.drop h o) n
theorem tE {Z W:List Nat}{i p d a:Nat}(hi:i<Z.length)(inv:2^p*ai 18446744073709551616 (Z.take i)+a=ai 18446744073709551616 (W.take i)+18446744073709551616^i*(W.getD i 0%2^p))
  (c:2^p*d+W.getD i 0%2^p=W.getD i 0+18446744073709551616*(W.getD (i+1) 0%2^p)) :
  2^p*ai 18446744073709551616 ((Z.set i d).take (i+1))+a=ai 18446744073709551616 (W.take (i+1))+18446744073709551616^(i+1)*(W.getD (i+1) 0%2^p):=by
 have e1:=aF 18446744073709551616 (Z.set i d) i;have e2:(Z.set i d).take i=Z.take i:=by rw[MQ,List.set_eq_of_length_le];rw[Lu];omega
 rw[e2,bC hi,if_pos rfl] at e1
 have h:=aF 18446744073709551616 W i;have f:=congrArg (18446744073709551616^i * ·) c
 simp only[Nat.mul_add] at f
 rw[e1,h,Nat.pow_succ,Nat.mul_add];have e:2^p*(18446744073709551616^i*d)=18446744073709551616^i*(2^p*d):=by ac_rfl
 have b:18446744073709551616^i*18446744073709551616*(W.getD (i+1) 0%2^p)=18446744073709551616^i*(18446744073709551616*(W.getD (i+1) 0%2^p)):=by ac_rfl
 rw[e,b]
 omega
theorem xW {X:List Nat}(d:Wd X){k m:Nat}(t:Tz (aA X) k m)(hk:k/64<X.length):aA (X.drop (k/64))=2^(k%64)*m/\(X.drop (k/64)).getD 0 0%2^(k%64)=0:=by
 have h1:aA (X.drop (k/64))=2^(k%64)*m:=by
  rw[nH d oM,t.1,xZ k,Ls,MR _ (Nat.pow_pos kD)]
 refine ⟨h1,?_⟩
 have c:aA (X.drop (k/64))=(X.drop (k/64)).getD 0 0+18446744073709551616*ai 18446744073709551616 ((X.drop (k/64)).drop 1):=by
  have:=fT 18446744073709551616 (l:=X.drop (k/64)) (k:=0) (by rw[LZ];omega)
  rwa [yh] at this
 have b:(18446744073709551616:Nat)=2^(k%64)*2^(64-k%64):=by rw[<-Nat.pow_add,show k%64+(64-k%64)=64 by omega]
 rw[h1] at c
 have a:(2^(k%64)*m)%2^(k%64)=0:=Nat.mul_mod_right _ _;rw[c] at a
 conv at a=>lhs;rw[b]
 rw[Ls,Nat.add_mul_mod_self_left] at a
 exact a
theorem FE {Z W:List Nat}{p m:Nat}(a:W.length<=Z.length)(inv:2^p*ai 18446744073709551616 (Z.take Z.length)+0=ai 18446744073709551616 (W.take Z.length)+18446744073709551616^Z.length*(W.getD Z.length 0%2^p))(e:aA W=2^p*m):aA Z=m:=by
 rw[List.take_length,LU a,cn a,Mh,Lw,wj,wj] at inv
 have e2:ai 18446744073709551616 W=2^p*m:=e;rw[e2] at inv
 exact Nat.eq_of_mul_eq_mul_left (Lz p) inv
theorem rt {l X:List Nat}{q i x N:Nat}(b:q+i<l.length)(h:∀ j,i<=j->j<N->l.getD (q+j) 0=X.getD j 0):∀ j,i+1<=j->j<N->(l.set (q+i) x).getD (q+j) 0=X.getD j 0:=fun j h1 a=>by
 rw[bC b,if_neg oM];exact h j oM a
theorem uy (rb:Nat)(C:List Nat)(o n c x:Nat)(hx:0<x)(hl0:C.length<=1000000000)(I:o+n<=C.length)(hnc:n<=c)(H:Wd C)(J:win C o n=wds x)(w:World)(h:Hp)(g:G w h)(ho:Own w rb 38 (C.flatMap ar))(V:h[rb]?=some be)(tb:Tab h):Calls Tryz.prog 165 #[.slice (some ⟨rb,o,none⟩) n c] w (eW rb w h fun v w' _=>∃ z:List Nat,∃ o' n' c':Nat,v=.slice (some ⟨rb,o',none⟩) n' c'/\z.length=C.length/\Wd z/\o'+n'<=z.length/\n'<=c'/\(∃ k m:Nat,Tz x k m/\win z o' n'=wds m)/\Own w' rb 38 (z.flatMap ar)):=by
 have B:UpM [rb] w h w h:=UpM.refl g;obtain ⟨wz,hz,e⟩:=SS.at_ g ho V;have bd:C.length=C.length:=rfl;replace e:=(e.aB tb);refine go Tryz.func165 [(0,qS (some ⟨rb,o,none⟩) n c)] rfl (aa e ac (aG (lL e ac (Dh 7 0 e (fun _ g_ f_ L=>rz (some ⟨rb,o,none⟩) c (win C o n) n (bL I) (H.win _ _) (by rw[J,ay];exact hx) (by rw[bL I];omega) _ _ g_ (f_.1) (SlO.win (f:=ar) (d:=0) (b:=rb) (l:=C) (fun _=>rfl) L o n)) ?_))));rintro _ w1 h2 u3 e ⟨k,m,rfl,M,hkn⟩;replace B:=B.trans (u3.m _);rw[bL I] at hkn
 have hX:=H.win o n;obtain ⟨K,O⟩:=xW hX M (by rw[bL I];omega);rw[xT] at K O
 obtain ⟨X,hXd⟩:∃ X,X=win C (o+k/64) (n-k/64):=⟨_,rfl⟩;rw[<-hXd] at K O
 have hXl:X.length=n-k/64:=by rw[hXd];exact bL oM
 have hXW:Wd X:=by rw[hXd];exact H.win _ _
 have hXg:∀ j,j<n-k/64->X.getD j 0=C.getD (o+k/64+j) 0:=fun j V=>by rw[hXd];exact t8 V
 refine lL e ac (aG (lL e aD (lV 10 (nV (k/64)) ?_ (hr:=aK (dB (t:=3) (u:=3) (x:=.tmp 9) (y:=.const (iV 64)) (k:=.i64) (a:=(k:Int)) (b:=(64:Int)) kR kR kR oM _) (dG k 64 oM)))));refine Lo 11 rb o n c 1 (k/64:Nat) (k/64) (o+(k/64)) (lL e ac (aG (lL e ac (lV 13 (nV (k%64)) ?_ (hr:=aK (fj (t:=3) (u:=3) (x:=.tmp 12) (y:=.const (iV 64)) (k:=.i64) (a:=(k:Int)) (b:=(64:Int)) kR kR kR oM _) (dq k 64))))));refine lL e ac (ag (aa e [.c,.v (nV (n-(k/64))),.c] (aZ ?_)));refine bH _ (CG.loop (fun μ_ Γ w_=>∃ (i:Nat)(l:List Nat)(h_:Hp),μ_=(n-k/64)-i/\Γ=[(0,qS (some ⟨rb,(o+(k/64)),none⟩) (n-(k/64)) (c-(k/64))),(2,sZ),(4,nV (k%64)),(15,nV (n-(k/64))),(16,nV i)]/\SS wz hz w_ h_ [⟨rb,38,(l).flatMap ar⟩] [] [fun h_=>Tab h_]/\i<=n-k/64/\l.length=C.length/\Wd l/\2^(k%64)*ai 18446744073709551616 ((win l (o+k/64) (n-k/64)).take i)+0=ai 18446744073709551616 (X.take i)+18446744073709551616^i*(X.getD i 0%2^(k%64))/\(∀ j,i<=j->j<n-k/64->l.getD (o+k/64+j) 0=X.getD j 0)/\UpM [rb] w h w_ h_) _ ⟨0,C,h2,rfl,rfl,e.to _ _,My _,rfl,H,(by rw[O];simp[ai]),(fun j _ V=>(hXg j V).symm),B⟩ ?_);rintro _ _ w4 ⟨i,l,h5,hm6,rfl,e,hi,W,S,inv,D,B⟩;refine ax ?_;cases F:(decide ((i:Int)<((n-(k/64):Nat):Int)))
 .
  have bb:=oF F;refine lB 17 F (ag (dD (CG.exit ?_)))
  show CG _ _ _ _ _ _ _ _
  refine aa e ac (Dh 47 0 e (fun _ g_ f_ L=>EZ (some ⟨rb,(o+k/64),none⟩) (c-(k/64)) (win l (o+k/64) (n-k/64)) (n-k/64) (bL oM) (by rw[bL oM];omega) (by rw[bL oM];omega) _ _ g_ (SlO.win (f:=ar) (d:=0) (b:=rb) (l:=l) (fun _=>rfl) L (o+k/64) (n-k/64))) ?_);rintro _ w8 h9 u10 e rfl;replace B:=B.trans (u10.m _);refine lL e ac (lN (kX ?_));have Y:i=n-k/64:=by omega
  have U:(win l (o+k/64) (n-k/64)).length=n-k/64:=bL oM;have hE:=FE (Z:=win l (o+k/64) (n-k/64)) oM (by rw[U,<-Y];rw[<-Y] at inv;exact inv) K;have hZW:Wd (win l (o+k/64) (n-k/64)):=S.win _ _;have hwm:=og hZW;rw[hE,U] at hwm
  have htl:=iq (win l (o+k/64) (n-k/64)) (n-k/64);exact e.retM B [] (qS (some ⟨rb,(o+k/64),none⟩) (tl (win l (o+k/64) (n-k/64)) (n-k/64)) (c-(k/64))) ⟨l,(o+k/64),_,_,rfl,W,S,by omega,by omega,⟨k,m,by rw[J,ay] at M;exact M,by rw[hwm];exact (qR htl).symm⟩,e.own 0⟩
 have bb:=oT F;refine lB 17 F (ag (ct (cK (cQ (kZ (aa e aD (aG (lL e aD (HQ 21 rb (o+(k/64)) (n-(k/64)) (c-(k/64)) 1 (i:Nat) i ((o+(k/64))+i) ?_)))))))));refine lQ 22 0 l ar 1 0 ((o+(k/64))+i) (mV ((l).getD ((o+(k/64))+i) 0)) e oM (lL e ac ?_);have Q:X.getD i 0=l.getD (o+k/64+i) 0:=(D i (nR _) oM).symm;have hxi:=S.get (o+k/64+i);have hdv:=Gb (l.getD (o+k/64+i) 0) (2^(k%64));refine lV 24 (mV (((l).getD ((o+(k/64))+i) 0:Nat)/2^(k%64))) ?_ (hr:=gL (t:=38) (u:=3) (x:=.tmp 22) (y:=.tmp 23) (ky:=.i64) (a:=((l).getD ((o+(k/64))+i) 0:Nat)) (n:=(k%64)) kR kR kR oM _);refine HQ 25 rb (o+(k/64)) (n-(k/64)) (c-(k/64)) 1 (i:Nat) i ((o+(k/64))+i) (JV 0 l ar 1 ((o+(k/64))+i) (((l).getD ((o+(k/64))+i) 0:Nat)/2^(k%64):Nat) e oM (fun _ pu e=>?_));replace B:=B.put pu (sy.2 rfl) e.g;have zb:((l).set ((o+(k/64))+i) (((l).getD ((o+(k/64))+i) 0:Nat)/2^(k%64):Nat)).length=C.length:=by rw[Mg];exact W
 replace e:=e.to [⟨rb,38,((l).set ((o+(k/64))+i) (((l).getD ((o+(k/64))+i) 0:Nat)/2^(k%64):Nat)).flatMap ar⟩] [];refine aG (lL e ac (bp 27 ((i:Nat)+1) (i+1) ?_));refine lL e [.c,.v (nV (n-(k/64)))] ?_;cases za:(decide (((i+1:Nat):Int)<((n-(k/64):Nat):Int)))
 .
  have zc:=oF za;refine lB 30 za (ah (cK (kQ (bp 45 ((i:Nat)+1) (i+1) ?_))));refine lL e ac (lD ?_);intro a_ ka;refine ⟨_,_,?_,⟨i+1,(l).set ((o+(k/64))+i) (((l).getD ((o+(k/64))+i) 0:Nat)/2^(k%64):Nat),h5,rfl,rfl,e.to _ _,oM,zb,(S.set _ oM),(by rw[k9 oM];exact tE (by rw[bL oM];omega) inv (by rw[Q,cn (l:=X) (show X.length<=i+1 by omega),Mh,Lw,wj];exact Nat.div_add_mod _ _)),(rt oM D),B⟩,ka.to _ kR⟩
  omega
 have zc:=oT za;refine lB 30 za (am (vk ⟨[],none⟩ 13 mixed ?_));replace B:=B.trans ((Up.drew (Up.refl e.g)).m _);replace e:=e.drew;refine aV 0 31 (qS (some ⟨rb,(o+(k/64)),none⟩) (n-(k/64)) (c-(k/64))) (aV 1 32 (nV i) (KX 2 33 rb (o+(k/64)) (n-(k/64)) (c-(k/64)) 1 (i:Nat) i ((o+(k/64))+i) (aQ 3 34 0 ((l).set ((o+(k/64))+i) (((l).getD ((o+(k/64))+i) 0:Nat)/2^(k%64):Nat)) ar 1 0 ((o+(k/64))+i) (mV (((l).set ((o+(k/64))+i) (((l).getD ((o+(k/64))+i) 0:Nat)/2^(k%64):Nat)).getD ((o+(k/64))+i) 0)) e oM (aV 4 35 (qS (some ⟨rb,(o+(k/64)),none⟩) (n-(k/64)) (c-(k/64))) (aV 5 36 (nV i) (aV 6 37 (nV (i+1)) ?_ (hv:=fun _=>rS (((i:Nat)+1)) kR ((gK oM oM).trans oM))))))));refine KX 7 38 rb (o+(k/64)) (n-(k/64)) (c-(k/64)) 1 (i+1:Nat) (i+1) ((o+(k/64))+(i+1)) (aQ 8 39 0 ((l).set ((o+(k/64))+i) (((l).getD ((o+(k/64))+i) 0:Nat)/2^(k%64):Nat)) ar 1 0 ((o+(k/64))+(i+1)) (mV (((l).set ((o+(k/64))+i) (((l).getD ((o+(k/64))+i) 0:Nat)/2^(k%64):Nat)).getD ((o+(k/64))+(i+1)) 0)) e oM (aV 9 40 (nV (k%64)) (aV 10 41 (nV (64-(k%64))) ?_ (hv:=fun _=>rS ((64-(k%64:Nat))) kR ((gK oM oM).trans oM)))));refine aV 11 42 (mV ((((l).set ((o+(k/64))+i) (((l).getD ((o+(k/64))+i) 0:Nat)/2^(k%64):Nat)).getD ((o+(k/64))+(i+1)) 0:Nat)*2^(64-(k%64))%18446744073709551616)) ?_ (hv:=fun _=>ie (t:=38) (u:=3) (x:=.tmp 39) (y:=.tmp 41) (ky:=.i64) (a:=(((l).set ((o+(k/64))+i) (((l).getD ((o+(k/64))+i) 0:Nat)/2^(k%64):Nat)).getD ((o+(k/64))+(i+1)) 0:Nat)) (n:=(64-(k%64))) kR kR kR _);have hXn:X.getD (i+1) 0=l.getD (o+k/64+(i+1)) 0:=(D (i+1) oM oM).symm;obtain ⟨hS1,hS2,hS3⟩:=pM (x:=l.getD (o+k/64+i) 0) (y:=l.getD (o+k/64+(i+1)) 0) (p:=k%64) oM hxi;have hgs:=bC (l:=l) (k:=o+k/64+i) (j:=o+k/64+i) (x:=l.getD (o+k/64+i) 0/2^(k%64)) oM;rw[if_pos rfl] at hgs
 have hgn:=bC (l:=l) (k:=o+k/64+i) (j:=o+k/64+(i+1)) (x:=l.getD (o+k/64+i) 0/2^(k%64)) oM;rw[if_neg oM] at hgn
 refine aV 12 43 (mV (l.getD (o+k/64+i) 0/2^(k%64)+l.getD (o+k/64+(i+1)) 0*2^(64-k%64)%18446744073709551616)) ?_ (hv:=fun _=>aK (iw (t:=38) (u:=38) (x:=.tmp 34) (y:=.tmp 42) (a:=(((l).set ((o+(k/64))+i) (((l).getD ((o+(k/64))+i) 0:Nat)/2^(k%64):Nat)).getD ((o+(k/64))+i) 0:Nat)) (b:=((((l).set ((o+(k/64))+i) (((l).getD ((o+(k/64))+i) 0:Nat)/2^(k%64):Nat)).getD ((o+(k/64))+(i+1)) 0:Nat)*2^(64-(k%64))%18446744073709551616:Nat)) kR kR kR oM oM _) (by rw[hgs,hgn,hS1]));refine Lh 13 44 rb (o+(k/64)) (n-(k/64)) (c-(k/64)) 1 (i:Nat) i ((o+(k/64))+i) (Lm 14 0 ((l).set ((o+(k/64))+i) (((l).getD ((o+(k/64))+i) 0:Nat)/2^(k%64):Nat)) ar 1 ((o+(k/64))+i) (l.getD (o+k/64+i) 0/2^(k%64)+l.getD (o+k/64+(i+1)) 0*2^(64-k%64)%18446744073709551616:Nat) e oM (fun _ pu e=>?_));replace B:=B.put pu (sy.2 rfl) e.g;have zd:(((l).set ((o+(k/64))+i) (((l).getD ((o+(k/64))+i) 0:Nat)/2^(k%64):Nat)).set ((o+(k/64))+i) (l.getD (o+k/64+i) 0/2^(k%64)+l.getD (o+k/64+(i+1)) 0*2^(64-k%64)%18446744073709551616:Nat)).length=C.length:=by rw[Mg];exact zb
 replace e:=e.to [⟨rb,38,(((l).set ((o+(k/64))+i) (((l).getD ((o+(k/64))+i) 0:Nat)/2^(k%64):Nat)).set ((o+(k/64))+i) (l.getD (o+k/64+i) 0/2^(k%64)+l.getD (o+k/64+(i+1)) 0*2^(64-k%64)%18446744073709551616:Nat)).flatMap ar⟩] [];refine tN (kQ (bp 45 ((i:Nat)+1) (i+1) ?_));refine lL e ac (lD ?_);intro a_ ka;refine ⟨_,_,?_,⟨i+1,((l).set ((o+(k/64))+i) (((l).getD ((o+(k/64))+i) 0:Nat)/2^(k%64):Nat)).set ((o+(k/64))+i) (l.getD (o+k/64+i) 0/2^(k%64)+l.getD (o+k/64+(i+1)) 0*2^(64-k%64)%18446744073709551616:Nat),h5,rfl,rfl,e.to _ _,oM,zd,((S.set _ oM).set _ hS2),(by rw[ME,k9 oM];exact tE (by rw[bL oM];omega) inv (by rw[Q,hXn];exact hS3)),(by rw[ME];exact rt oM D),B⟩,ka.to _ kR⟩
 omega
theorem IP (rb:Nat)(u:List Nat)(o n c x:Nat)(hl0:u.length<=1000000000)(hon:o+n<=u.length)(hnc:n<=c)(hW0:Wd u)(F:win u o n=wds x)(D:Z9)(d y m:Nat)(hm:(wds y).length=m)(hmd:m<=d)(Z:y<=x)(w:World)(h:Hp)(g:G w h)(ho:Own w rb 38 (u.flatMap ar))(hj:h[rb]?=some be)(hD:SlO 1 ar 0 h D (wds y)):Calls Tryz.prog 167 #[.slice (some ⟨rb,o,none⟩) n c,.slice D m d] w (eW rb w h fun v w' _=>∃ z:List Nat,∃ o' Y c':Nat,v=.slice (some ⟨rb,o',none⟩) Y c'/\z.length=u.length/\Wd z/\o'+Y<=z.length/\Y<=c'/\win z o' Y=wds (x-y)/\Own w' rb 38 (z.flatMap ar)):=by
 have e:UpM [rb] w h w h:=UpM.refl g;obtain ⟨wz,hz,a⟩:=SS.at_ g ho hj;have bn:u.length=u.length:=rfl;replace a:=a.aS hD;have hwn:n=(wds x).length:=by rw[<-F,bL hon]
 have hlm:=dg Z;refine go Tryz.func167 [(0,qS (some ⟨rb,o,none⟩) n c),(1,qS D m d)] rfl (aa a ac (aG (lL a ac (ag (aa a [.c,.v (nV n),.c] (aZ ?_))))));refine bH _ (CG.loop (fun μ_ Γ w_=>∃ (i:Nat)(l:List Nat)(J:Nat)(X:Hp),μ_=n-i/\Γ=[(0,qS (some ⟨rb,o,none⟩) n c),(1,qS D m d),(4,sZ),(9,nV n),(10,nV i),(5,mV J)]/\SS wz hz w_ X [⟨rb,38,(l).flatMap ar⟩] [] [fun X=>SlO 1 ar 0 X D (wds y)]/\i<=n/\l.length=u.length/\Wd l/\J<=1/\ai 18446744073709551616 (win l o n)+ai 18446744073709551616 ((wds y).take i)=x+18446744073709551616^i*J/\UpM [rb] w h w_ X) _ ⟨0,u,0,h,rfl,rfl,a.to _ _,My _,rfl,hW0,oM,(by have hx_:ai 18446744073709551616 (wds x)=x:=ay x;rw[F,hx_];simp[ai]),e⟩ ?_);rintro _ _ w1 ⟨i,l,J,h2,hm3,rfl,a,hi,H,K,hbo,inv,e⟩;have hlk:=K.get (o+i);have hyk:=(Wd.wds y).get i;have W:=t8 (l:=l) (o:=o) (n:=n) (j:=i);refine ax ?_;cases C:(decide ((i:Int)<(n:Int)))
 .
  have V:=oF C;refine lB 11 C (ag (dD (CG.exit ?_)))
  show CG _ _ _ _ _ _ _ _
  refine aa a ac (Dh 36 0 a (fun _ g_ f_ sg_=>EZ (some ⟨rb,o,none⟩) c (win l o n) n (bL oM) (by rw[bL oM];omega) (by rw[bL oM];omega) _ _ g_ (SlO.win (f:=ar) (d:=0) (b:=rb) (l:=l) (fun _=>rfl) sg_ o n)) ?_);rintro _ w5 h6 u7 a rfl;replace e:=e.trans (u7.m _);refine lL a ac (lN (kX ?_));have hiN:i=n:=by omega
  have L:(win l o n).length=n:=bL oM;rw[LU (show (wds y).length<=i by omega),hiN] at inv
  have U:Wd (win l o n):=K.win _ _;have hE:aA (win l o n)=x-y:=oS U (by rw[L];have hb_:ai 18446744073709551616 (wds y)=y:=ay y;rw[hb_] at inv;exact inv) oM hbo;have O:=og U;rw[hE,L] at O
  have htl:=iq (win l o n) n;exact a.retM e [] (qS (some ⟨rb,o,none⟩) (tl (win l o n) n) c) ⟨l,o,_,_,rfl,H,K,by omega,by omega,(by rw[O];exact (qR htl).symm),a.own 0⟩
 have V:=oT C;refine lB 11 C (ag (ct (cK (cQ (kZ (aa a aD (aG (lL a ac (ag (aa a [.c,.c,.v (nV m)] ?_))))))))));cases B:(decide ((i:Int)<(m:Int)))
 .
  have M:=oF B;refine lB 16 B (ah (cK (kQ (lL a oz (HQ 26 rb o n c 1 (i:Nat) i (o+i) ?_)))));refine lQ 27 0 l ar 1 0 (o+i) (mV ((l).getD (o+i) 0)) a oM (lL a aD ?_);obtain ⟨I,za,bb,bf,bd,Q⟩:=jw ((l).getD (o+i) 0) 0 J wM wM oM;refine lV 30 (.tuple #[mV I,mV za]) ?_ (hr:=ef kR (Q _));refine lL a [.c,.v (mV I),.v (mV za)] (HQ 33 rb o n c 1 (i:Nat) i (o+i) ?_);refine JV 0 l ar 1 (o+i) I a oM (fun _ pu a=>?_);replace e:=e.put pu (sy.2 rfl) a.g;have zc:((l).set (o+i) I).length=u.length:=by rw[Mg];exact H
  replace a:=a.to [⟨rb,38,((l).set (o+i) I).flatMap ar⟩] [];refine lL a ac (lN (kQ (bp 34 ((i:Nat)+1) (i+1) ?_)));refine lL a ac (lD ?_);intro a_ ka;refine ⟨_,_,?_,⟨i+1,(l).set (o+i) I,za,h2,rfl,rfl,a.to _ _,oM,zc,(K.set _ oM),oM,(by rw[k9 oM];exact iR (by rw[bL oM];omega) inv (by rw[W oM];first|omega|(have hy0:=cn (l:=wds y) (k:=i) oM;omega))),e⟩,ka.to _ kR⟩
  omega
 have M:=oT B;refine lB 16 B (am (kQ (lL a aD (lX 19 D m d 1 (i:Nat) i ((a.f.1).ok oM) ?_))));refine lH 20 (mV ((wds y).getD i 0)) a ((a.f.1).el i oM) (lL a ac (lN (kQ (lL a oz (HQ 26 rb o n c 1 (i:Nat) i (o+i) ?_)))));refine lQ 27 0 l ar 1 0 (o+i) (mV ((l).getD (o+i) 0)) a oM (lL a aD ?_);obtain ⟨p,zb,bm,bk,bl,S⟩:=jw ((l).getD (o+i) 0) ((wds y).getD i 0) J wM wM oM;refine lV 30 (.tuple #[mV p,mV zb]) ?_ (hr:=ef kR (S _));refine lL a [.c,.v (mV p),.v (mV zb)] (HQ 33 rb o n c 1 (i:Nat) i (o+i) ?_);refine JV 0 l ar 1 (o+i) p a oM (fun _ pu a=>?_);replace e:=e.put pu (sy.2 rfl) a.g;have zd:((l).set (o+i) p).length=u.length:=by rw[Mg];exact H
 replace a:=a.to [⟨rb,38,((l).set (o+i) p).flatMap ar⟩] [];refine lL a ac (lN (kQ (bp 34 ((i:Nat)+1) (i+1) ?_)));refine lL a ac (lD ?_);intro a_ ka;refine ⟨_,_,?_,⟨i+1,(l).set (o+i) p,zb,h2,rfl,rfl,a.to _ _,oM,zd,(K.set _ oM),oM,(by rw[k9 oM];exact iR (by rw[bL oM];omega) inv (by rw[W oM];first|omega|(have hy0:=cn (l:=wds y) (k:=i) oM;omega))),e⟩,ka.to _ kR⟩
 omega
theorem Tz.le {n k m:Nat}(t:Tz n k m):m<=n:=by rw[t.1];exact MS m (Lz k)
theorem g9 (a b:Nat):(bZ a b=0/\a=b)\/(bZ a b = -1/\a<b)\/(bZ a b=1/\b<a):=by
 rcases Nat.lt_trichotomy a b with h|h|h
 ·exact .inr (.inl ⟨dZ h,h⟩)
 ·exact .inl ⟨iy h,h⟩
 ·exact .inr (.inr ⟨fK h,h⟩)
theorem vo (A:Z9)(c:Nat)(D:Z9)(d:Nat)(x y n a:Nat)(e b:List Nat)(l:e=wds x)(u:b=wds y)(hn:e.length=n)(f:b.length=a)(p:n<=1000000000)(i:a<=1000000000)(w:World)(h:Hp)(g:G w h)(o:SlO 1 ar 0 h A e)(j:SlO 1 ar 0 h D b):CV 166 #[.slice A n c,.slice D a d] w h (iV (bZ x y)):=by
 subst l u;exact BT A c D d x y n a hn f oM oM w h g o j
theorem IQ (A:Z9)(c:Nat)(l:List Nat)(n x:Nat)(b:l=wds x)(hn:l.length=n)(d:n<=1000000000)(w:World)(h:Hp)(g:G w h)(a:SlO 1 ar 0 h A l):CV 168 #[.slice A n c] w h (nv x):=by
 subst b;have:=Dd A c (wds x) n hn (Wd.wds x) oM w h g a
 rwa [ay] at this
theorem xB (rb:Nat)(a:List Nat)(o n c x:Nat)(p:a.length<=1000000000)(l:o+n<=a.length)(j:n<=c)(u:Wd a)(b:win a o n=wds x)(D:Z9)(d y m:Nat)(f:List Nat)(J:f=wds y)(I:f.length=m)(B:m<=d)(i:y<=x)(w:World)(h:Hp)(g:G w h)(F:Own w rb 38 (a.flatMap ar))(H:h[rb]?=some be)(C:SlO 1 ar 0 h D f):Calls Tryz.prog 167 #[.slice (some ⟨rb,o,none⟩) n c,.slice D m d] w (eW rb w h fun v w' _=>∃ z:List Nat,∃ o' e c':Nat,v=.slice (some ⟨rb,o',none⟩) e c'/\z.length=a.length/\Wd z/\o'+e<=z.length/\e<=c'/\win z o' e=wds (x-y)/\Own w' rb 38 (z.flatMap ar)):=by
 subst J;exact IP rb a o n c x p l j u b D d y m I B i w h g F H C
theorem DW (x y:Nat)(hx:0<x)(hy:0<y)(hlx:(wds x).length<=1000000000)(hly:(wds y).length<=1000000000)(w:World)(h:Hp)(g:G w h)(tb:Tab h):CV 129 #[nv x,nv y] w h (nv (MC x y)):=by
 have e:=((sS g).aB tb);have hpx:=hx;have hpy:=hy;refine go Tryz.func129 [(0,nv x),(1,nv y)] rfl (ax (lA 2 40 (nc x) e (fun b1 w2 h3 e=>lA 3 40 (nc y) e (fun b4 w5 h6 e=>lA 4 40 ([uV 0,eS]) e (fun V w8 h9 e=>ag ?_)))));obtain ⟨K_,hK_⟩:∃ K_,K_=w8.heap.size:=⟨_,rfl⟩;have d4:V<K_:=by rw[hK_];exact ff e 0
 have b6:b4<K_:=by rw[hK_];exact ff e 1
 have b5:b1<K_:=by rw[hK_];exact ff e 2
 refine vk ⟨[],some (K_,[])⟩ 0 mixed ?_;have f9:=e.g.size;replace e:=e.drew;have X:=Nat.le_of_eq hK_;refine zO 0 10 [(2,0,2)] (nv x) rfl X e (fun p hp=>by obtain rfl:=sy.1 hp;exact b5) (zO 2 12 [(1,0,2)] (nv y) rfl X e (fun p hp=>by obtain rfl:=sy.1 hp;exact b6) (sH 1 11 (wq x oM oM _ _ e.g) rfl X ?_));rintro _ _ _ u12 X ⟨I,rfl,ds,c3,f6⟩;obtain ⟨_,e,-,-⟩:=e.take u12 ds c3;replace e:=e.to [⟨I,38,(wds x).flatMap ar⟩,⟨V,40,[uV 0,eS]⟩,⟨b4,40,nc y⟩,⟨b1,40,nc x⟩] [];refine sH 3 13 (wq y oM oM _ _ e.g) rfl X ?_;rintro _ _ _ u16 X ⟨M,rfl,d0,dp,f3⟩;obtain ⟨_,e,-,-⟩:=e.take u16 d0 dp;replace e:=e.to [⟨M,38,(wds y).flatMap ar⟩,⟨I,38,(wds x).flatMap ar⟩,⟨V,40,[uV 0,eS]⟩,⟨b4,40,nc y⟩,⟨b1,40,nc x⟩] [];refine zV 4 5 (qS (sB I) ((wds x).length) ((wds x).length)) (zV 5 6 (qS (sB M) ((wds y).length) ((wds y).length)) (qy (lL e ac (Kv 15 1 e (fun _ g_ f_ U=>rz (sB I) (wds x).length (wds x) (wds x).length rfl (Wd.wds x) (by rw[ay];omega) oM _ _ g_ (f_.1) (SlO.of_flat (sz:=1) (f:=ar) (d:=0) (b:=I) (o:=0) (l:=wds x) (fun _=>rfl) U)) ?_))));rintro _ _ _ e ⟨kx,mx,rfl,htx,hkx⟩;rw[ay] at htx
 refine lL e ac (Kv 17 0 e (fun _ g_ f_ U=>rz (sB M) (wds y).length (wds y) (wds y).length rfl (Wd.wds y) (by rw[ay];omega) oM _ _ g_ (f_.1) (SlO.of_flat (sz:=1) (f:=ar) (d:=0) (b:=M) (o:=0) (l:=wds y) (fun _=>rfl) U)) ?_);rintro _ _ _ e ⟨ky,my,rfl,hty,hky⟩;rw[ay] at hty
 refine lV 18 (nV (min kx ky)) ?_ (hr:=aK (n:=if (ky:Int)<(kx:Int) then (ky:Int) else (kx:Int)) kR (by split<;>omega));refine lL e ac (aG (lL e ac (gh 20 (uy I (wds x) 0 ((wds x).length) ((wds x).length) x hpx oM oM (nR _) (Wd.wds x) (tM _ _ (nR _)) _ _ e.g (e.own 1) (e.jk 1) e.f.1) ?_)));rintro _ _ _ u27 ⟨z24,o24,n24,zl,rfl,fn,b2,cm,ch,⟨f7,dn,j,cy⟩,c6⟩;replace e:=(e.stepM 1 u27 c6).to [⟨M,38,(wds y).flatMap ar⟩,⟨I,38,(z24).flatMap ar⟩,⟨V,40,[uV 0,eS]⟩,⟨b4,40,nc y⟩,⟨b1,40,nc x⟩] [];have cv:=j.odd_pos;have fp:=j.le;refine lL e ac (gh 22 (uy M (wds y) 0 ((wds y).length) ((wds y).length) y hpy oM oM (nR _) (Wd.wds y) (tM _ _ (nR _)) _ _ e.g (e.own 0) (e.jk 0) e.f.1) ?_);rintro _ _ zm u31 ⟨z28,o28,n28,zn,rfl,d7,bx,br,bf,⟨f8,dx,u,bl⟩,c7⟩;replace e:=(e.stepM 0 u31 c7).to [⟨M,38,(z28).flatMap ar⟩,⟨I,38,(z24).flatMap ar⟩,⟨V,40,[uV 0,eS]⟩,⟨b4,40,nc y⟩,⟨b1,40,nc x⟩] [];have cj:=u.odd_pos;have d6:=u.le;refine lL e aD (ag (kZ ?_));refine bH _ (CG.loop (fun μ_ Γ w_=>∃ (J:Nat)(L:List Nat)(S:Nat)(O:Nat)(c1:Nat)(Q:Nat)(l2:List Nat)(Y:Nat)(W:Nat)(c2:Nat)(C:Nat)(y1:Nat)(h_:Hp),μ_=C+y1/\Γ=[(4,pB V),(7,nV (min kx ky)),(5,qS (some ⟨J,S,none⟩) O c1),(6,qS (some ⟨Q,Y,none⟩) W c2)]/\SS w h w_ h_ [⟨Q,38,(l2).flatMap ar⟩,⟨J,38,(L).flatMap ar⟩,⟨V,40,[uV 0,eS]⟩,⟨b4,40,nc y⟩,⟨b1,40,nc x⟩] [] [fun h_=>Tab h_]/\L.length<=1000000000/\Wd L/\S+O<=L.length/\O<=c1/\win L S O=wds C/\0<C/\l2.length<=1000000000/\Wd l2/\Y+W<=l2.length/\W<=c2/\win l2 Y W=wds y1/\0<y1/\C%2=1/\y1%2=1/\MC C y1*2^min kx ky=MC x y) _ ⟨I,z24,o24,n24,zl,M,z28,o28,n28,zn,dn,dx,zm,rfl,rfl,e.to _ _,oM,b2,cm,ch,cy,cv,oM,bx,br,bf,bl,cj,j.2,u.2,(by rw[(htx.uniq j).1,(hty.uniq u).1];exact (BJ j u).symm)⟩ ?_);rintro _ _ _ ⟨J,L,S,O,c1,Q,l2,Y,W,c2,C,y1,_,hc,rfl,e,hl1,hW1,D,bd,i,hx1,hl2,hW2,K,bb,B,hy1,hxo,hyo,hG⟩;have hb:=g9 C y1;have dc:=congrArg Mt i;rw[bL D] at dc
 have c8:=congrArg Mt B;rw[bL K] at c8
 refine kZ (aa e aD (Ka 25 1 0 e (fun _ g_ f_ U Z=>vo (some ⟨J,S,none⟩) c1 (some ⟨Q,Y,none⟩) c2 C y1 O W (win L S O) (win l2 Y W) i B (bL D) (bL K) oM oM _ _ g_ (SlO.win (f:=ar) (d:=0) (b:=J) (l:=L) (fun _=>rfl) U S O) (SlO.win (f:=ar) (d:=0) (b:=Q) (l:=l2) (fun _=>rfl) Z Y W)) ?_));rintro _ _ _ e rfl;refine lL e ac (ag (aa e ac ?_));cases za:((bZ C y1:Int) == (0:Int))
 .
  have zd:=aj za;refine lB 27 za (ah (cK (cQ (aa e ac ?_))));cases zb:(decide ((bZ C y1:Int)<(0:Int)))
  .
   have ze:=oF zb;refine lB 29 zb (ah (cK (kQ (lL e aD (IZ 34 1 0 e (fun _ g_ f_ hj_ Z=>xB J L S O c1 C oM D bd hW1 i (some ⟨Q,Y,none⟩) c2 y1 W (win l2 Y W) B (bL K) bb oM _ _ g_ (e.own 1) hj_ (SlO.win (f:=ar) (d:=0) (b:=Q) (l:=l2) (fun _=>rfl) Z Y W)) ?_)))));rintro _ _ _ u44 ⟨s41,dz,c9,dm,rfl,f1,b3,cf,bt,bm,zi⟩;replace e:=(e.stepM 1 u44 zi).to [⟨Q,38,(l2).flatMap ar⟩,⟨J,38,(s41).flatMap ar⟩,⟨V,40,[uV 0,eS]⟩,⟨b4,40,nc y⟩,⟨b1,40,nc x⟩] [];refine gh 35 (uy J s41 dz c9 dm (C-y1) oM oM cf bt b3 bm _ _ e.g (e.own 1) (e.jk 1) e.f.1) ?_;rintro _ _ zo u48 ⟨z45,o45,n45,zp,rfl,fm,cx,cb,b0,⟨f2,df,F,cz⟩,dd⟩;replace e:=(e.stepM 1 u48 dd).to [⟨Q,38,(l2).flatMap ar⟩,⟨J,38,(z45).flatMap ar⟩,⟨V,40,[uV 0,eS]⟩,⟨b4,40,nc y⟩,⟨b1,40,nc x⟩] [];have cq:=F.odd_pos;have d3:=F.le;refine lL e ac (lD ?_);intro a_ ka;refine ⟨_,_,?_,⟨J,z45,o45,n45,zp,Q,l2,Y,W,c2,df,y1,zo,rfl,rfl,e.to _ _,oM,cx,cb,b0,cz,cq,oM,hW2,K,bb,B,hy1,F.2,hyo,(by rw[vg oM hyo F];exact hG)⟩,ka.to _ kR⟩
   omega
  have ze:=oT zb;refine lB 29 zb (am (kQ (lL e oz (lN (kQ (lL e aD (IZ 34 0 1 e (fun _ g_ f_ hj_ Z=>xB Q l2 Y W c2 y1 oM K bb hW2 B (some ⟨J,S,none⟩) c1 C O (win L S O) i (bL D) bd oM _ _ g_ (e.own 0) hj_ (SlO.win (f:=ar) (d:=0) (b:=J) (l:=L) (fun _=>rfl) Z S O)) ?_)))))));rintro _ _ _ u67 ⟨s64,dw,c4,c5,rfl,d5,cp,bk,cw,b9,zj⟩;replace e:=(e.stepM 0 u67 zj).to [⟨Q,38,(s64).flatMap ar⟩,⟨J,38,(L).flatMap ar⟩,⟨V,40,[uV 0,eS]⟩,⟨b4,40,nc y⟩,⟨b1,40,nc x⟩] [];refine gh 35 (uy Q s64 dw c4 c5 (y1-C) oM oM bk cw cp b9 _ _ e.g (e.own 0) (e.jk 0) e.f.1) ?_;rintro _ _ zq u71 ⟨z68,o68,n68,zr,rfl,d1,cd,cr,bn,⟨hd,dv,H,bq⟩,dy⟩;replace e:=(e.stepM 0 u71 dy).to [⟨Q,38,(z68).flatMap ar⟩,⟨J,38,(L).flatMap ar⟩,⟨V,40,[uV 0,eS]⟩,⟨b4,40,nc y⟩,⟨b1,40,nc x⟩] [];have bz:=H.odd_pos;have d2:=H.le;refine lL e ac (lD ?_);replace e:=e.perm (List.Perm.swap _ _ _);intro a_ ka;refine ⟨_,_,?_,⟨Q,z68,o68,n68,zr,J,L,S,O,c1,dv,C,zq,rfl,rfl,e.to _ _,oM,cd,cr,bn,bq,bz,oM,hW1,D,bd,i,hx1,H.2,hxo,(by rw[vg oM hxo H,MD];exact hG)⟩,ka.to _ kR⟩
  omega
 have zd:=eq_of_beq za;refine lB 27 za (am (CG.exit ?_))
 show CG _ _ _ _ _ _ _ _
 refine aa e ac (Kv 37 1 e (fun _ g_ f_ U=>IQ (some ⟨J,S,none⟩) c1 (win L S O) O C i (bL D) oM _ _ g_ (SlO.win (f:=ar) (d:=0) (b:=J) (l:=L) (fun _=>rfl) U S O)) ?_);rintro _ _ _ e rfl;refine lA 9 40 ([uV 0,eS]) e (fun zg _ zs e=>lP 0 0 (nc C) e (fun _ e=>ag (kZ ?_)));refine bH _ (CG.loop (fun μ_ Γ w_=>∃ (z:Int)(a:Nat)(h_:Hp),μ_=z.toNat/\Γ=[(4,pB V),(9,pB zg),(7,iV z)]/\SS w h w_ h_ [⟨zg,40,nc a⟩,⟨Q,38,(l2).flatMap ar⟩,⟨J,38,(L).flatMap ar⟩,⟨V,40,[uV 0,eS]⟩,⟨b4,40,nc y⟩,⟨b1,40,nc x⟩] [] [fun h_=>Tab h_]/\z<=64000000000/\a*2^z.toNat=MC x y) _ ⟨((min kx ky:Nat):Int),C,zs,rfl,rfl,e.to _ _,oM,(by rw[show C=y1 by omega,Nat.gcd_self] at hG;rw[show C=y1 by omega];rw[show (((min kx ky:Nat):Int)).toNat=min kx ky by omega];exact hG)⟩ ?_);rintro _ _ _ ⟨z,a,_,hh,rfl,e,hz,ha⟩;refine cQ (aa e ac ?_);cases zc:(decide ((0:Int)<(z:Int)))
 .
  have zf:=oF zc;refine lB 39 zc (ah (CG.exit ?_))
  show CG _ _ _ _ _ _ _ _
  exact aa e [.o (nv a) 0 0 2] (lP 3 0 (nc a) e (fun _ e=>ae e [(3,0,2)] (nv a) (by rw[show z.toNat=0 by omega,MA,Nat.mul_one] at ha;rw[ha])))
 have zf:=oT zc;refine lB 39 zc (am (cK (cQ (kZ (kQ (lL e [.o (nv a) 0 0 2,.c] (lV 44 (nV (min z.toNat 65536)) ?_ (hr:=aK (n:=if (65536:Int)<z then (65536:Int) else z) kR (by split<;>omega)))))))));refine aq 45 e (HJ a (min z.toNat 65536) (by have:=dg (show a<=x by exact ep (Nat.le_mul_of_pos_right a (Lz z.toNat)) (by rw[ha];exact MT y hx));omega) oM _ _ e.g) (fun _ zk e=>lP 0 0 (nc (a*2^min z.toNat 65536)) e (fun _ e=>lN (kQ (lL e ac (lI 41 (z-65536) ?_)))));refine lL e ac (lD ?_);intro a_ ka;refine ⟨_,_,?_,⟨z-65536,a*2^min z.toNat 65536,zk,rfl,rfl,e.to _ _,oM,(by rw[Ls,<-Nat.pow_add,show min z.toNat 65536+(z-65536).toNat=z.toNat by omega];exact ha)⟩,ka.to _ kR⟩
 omega
theorem lu (n:Nat):(n=0/\nb n=0)\/(0<n/\0<nb n):=by
 rcases Au n with h|h
 ·subst h;exact .inl ⟨rfl,rfl⟩
 ·exact .inr ⟨h,(cB h).2.2⟩
theorem jV (x y:Nat):MC y (x%y)=MC x y:=by rw[MD y,<-Nat.gcd_rec,MD]
theorem GG (n:Nat)(w:World)(h:Hp)(g:G w h):CR 128 #[nv n] w h (fun v _=>∃ s:Nat,∃ ok:Bool,v=.tuple #[mV s,.bool ok]/\(ok=true->s=n/\n<18446744073709551616)):=by
 rcases dS n 18446744073709551616 with hn|hn
 ·refine (tS n hn w h g).mono ?_
  rintro _ w' ⟨_,a,rfl,u,rfl⟩;exact ⟨_,a,rfl,u,n,true,rfl,fun _=>⟨rfl,hn⟩⟩
 ·refine (CC n hn w h g).mono ?_
  rintro _ w' ⟨_,a,rfl,u,rfl⟩;exact ⟨_,a,rfl,u,0,false,rfl,fun e=>by cases e⟩
theorem J9 (a b:Int)(hla:(wds (ab a)).length<=1000000000)(hlb:(wds (ab b)).length<=1000000000)(w:World)(h:Hp)(g:G w h)(tb:Tab h):CV 79 #[iv a,iv b] w h (nv (MC (ab a) (ab b))):=by
 have d:=((sS g).aB tb);refine go Tryz.func79 [(0,iv a),(1,iv b)] rfl (ax (lA 2 42 (ic a) d (fun Y w2 h3 d=>lA 3 42 (ic b) d (fun b4 w5 h6 d=>lA 4 40 ([uV 0,eS]) d (fun Q w8 h9 d=>ag ?_)))));have z:=d;refine Ci 6 [⟨4,5,.cells (MU [uV 0,eS]) 40 (0,0)⟩,⟨5,6,.cells (MU [uV 0,eS]) 40 (0,0)⟩] [] mixed d (bw (ee kR (fun _ _=>by kernel_rfl)) (bw (ee kR (fun _ _=>by kernel_rfl)) ao)) (eV 0 14 (qP Y 1) (eO 1 15 [(2,1,2)] (nv (ab a)) d (eV 2 16 (qP b4 1) (By 3 17 [(1,1,2)] (nv (ab b)) z d (Gq z d 40 [uV 0,eS] 40 [uV 0,eS] (fun _ _ I H J F d=>tP 6 0 0 (nc (ab a)) d (fun _ d=>?_) (hz:=iz J)))))));refine tP 7 1 0 (nc (ab b)) d (fun _ d=>?_) (hz:=iz F);refine tN (CG.join (fun Γ X=>∃ (x:Nat)(y:Nat)(D:Hp),Γ=[(4,pB Q),(6,pB H),(5,pB I)]/\SS w h X D [⟨I,40,nc x⟩,⟨H,40,nc y⟩,⟨Q,40,[uV 0,eS]⟩,⟨b4,42,ic b⟩,⟨Y,42,ic a⟩] [] [fun D=>Tab D]/\(wds x).length<=1000000000/\(wds y).length<=1000000000/\MC x y=MC (ab a) (ab b)) ?_ ?_)
 .
  refine aa d [.o (nv (ab a)) 0 0 2,.o (nv (ab b)) 1 0 2] (aq 20 d (mi (ab a) (ab b) aM aM _ _ d.g) (fun _ zm d=>?_));have hcm:=g9 (ab a) (ab b);cases V:(decide ((bZ (ab a) (ab b):Int)<(0:Int)))
  .
   have zi:=oF V;refine lB 21 V (ah (CG.skip ?_));intro a_ L;exact ⟨_,⟨(ab a),(ab b),zm,rfl,d.to _ _,aM,aM,(by first|rfl|exact MD _ _)⟩,L.to _ kR⟩
  have zi:=oT V;refine lB 21 V (am (kQ (lL d [.o (nv (ab b)) 1 0 2,.o (nv (ab a)) 0 0 2] (lP 0 0 (nc (ab b)) d (fun _ d=>lP 1 0 (nc (ab a)) d (fun _ d=>lD ?_))))));intro a_ L;exact ⟨_,⟨(ab b),(ab a),zm,rfl,d.to _ _,aM,aM,(by first|rfl|exact MD _ _)⟩,L.to _ kR⟩
 rintro _ _ ⟨x,y,_,rfl,d,hlx,hly,K⟩;refine cQ (aa d [.o (nv y) 1 0 2] (aq 25 d (fz y (by first|assumption|exact aw (MV (z2 _ oM)) aM) _ _ d.g) (fun _ _ d=>?_)));have bd:=lu y;cases W:(((nb y:Nat):Int) == (0:Int))
 .
  have zj:=aj W;refine lB 26 W (ah (cK (aa d [.o (nv x) 0 0 2,.o (nv y) 1 0 2] (aq 31 d (JK x y oM aM aM _ _ d.g) (fun _ _ d=>?_)))));have hmd:=z2 x (show 0<y by omega);refine lL d [.c,.v (nv (x/y)),.v (nv (x%y)),.v qT] (lA 7 40 ([uV 0,eS]) d (fun zn _ _ d=>lA 8 40 ([uV 0,eS]) d (fun zo _ _ d=>lP 1 0 (nc (x/y)) d (fun _ d=>lP 0 0 (nc (x%y)) d (fun _ d=>lL d ac (ag ?_))))));have z:=d;refine Ci 2 [] [I,H] mixed d ao (eO 0 35 [(3,0,2)] (nv y) d (By 1 36 [(0,0,2)] (nv (x%y)) z d ?_ (hM:=fun p hp=>by obtain rfl:=sy.1 hp;exact fun M=>by rcases g2.1 M with e|M;exact gC d.st (i:=0) (j:=2) kR kR kR e;rcases g2.1 M with e|M;exact gC d.st (i:=0) (j:=3) kR kR kR e;cases M)));refine bU d (fun _ _ d=>tP 2 2 0 (nc y) d (fun _ d=>?_) (hz:=fi (MG)));refine tP 3 3 0 (nc (x%y)) d (fun _ d=>?_) (hz:=fi (List.mem_cons_of_mem _<|MG));refine tN (cQ (ax ?_));have C:MC y (x%y)=MC (ab a) (ab b):=by rw[<-K];exact jV _ _
  refine lL d [.o (nv (x%y)) 3 0 2] (aq 38 d (fz (x%y) (by first|assumption|exact aw (MV (z2 _ oM)) aM) _ _ d.g) (fun _ _ d=>?_));have bk:=lu (x%y);cases U:(((nb (x%y):Nat):Int) == (0:Int))
  .
   have zk:=aj U;refine lB 39 U (ah (cK (cQ (aa d [.o (nv y) 2 0 2] (lC 43 d (GG y _ _ d.g) ?_)))));rintro _ _ _ d ⟨sp,ok,rfl,l⟩;refine lL d [.c,.v (mV sp),.v (.bool ok),.c,.c] (aG (lL d ac (lN ?_)));cases S:(ok)
   .
    try rw[S] at d
    try rw[S]
    exact dD (cK (aa d [.o (nv y) 2 0 2,.o (nv (x%y)) 3 0 2] (aq 62 d (DW y (x%y) oM oM (by first|assumption|exact aw (MV (z2 _ oM)) aM) (by first|assumption|exact aw (MV (z2 _ oM)) aM) _ _ d.g d.f.1) (fun _ _ d=>lP 4 0 (nc (MC y (x%y))) d (fun _ d=>ae d [(4,0,2)] (nv (MC y (x%y))) (congrArg nv C))))))
   try rw[S] at d
   try rw[S]
   refine ct (aa d [.o (nv (x%y)) 3 0 2] (aq 49 d (tS (x%y) (by have B:=l aM;omega) _ _ d.g) (fun _ zp d=>lL d [.c,.v (mV (x%y)),.v qT,.c,.c] (ag (kZ ?_)))));refine bH _ (CG.loop (fun Z Γ X=>∃ (p:Nat)(q:Nat)(D:Hp),Z=q/\Γ=[(4,pB Q),(6,pB H),(5,pB I),(10,mV p),(12,mV q)]/\SS w h X D [⟨zo,40,nc (x%y)⟩,⟨zn,40,nc (x/y)⟩,⟨I,40,nc y⟩,⟨H,40,nc (x%y)⟩,⟨Q,40,[uV 0,eS]⟩,⟨b4,42,ic b⟩,⟨Y,42,ic a⟩] [] [fun D=>Tab D]/\p<18446744073709551616/\q<18446744073709551616/\MC p q=MC (ab a) (ab b)) _ ⟨sp,(x%y),zp,rfl,rfl,d.to _ _,(by have B:=l aM;omega),(by have B:=l aM;omega),(by rw[(l aM).1];exact C)⟩ ?_);rintro _ _ _ ⟨p,q,_,bf,rfl,d,hp,hq,hG⟩;refine cQ (aa d ac ?_);cases O:(decide ((0:Int)<(q:Int)))
   .
    have zl:=oF O;refine lB 53 O (ah (CG.exit ?_))
    show CG _ _ _ _ _ _ _ _
    exact aa d ac (aq 59 d (JP p hp _ _ d.g) (fun _ _ d=>lP 4 0 (nc p) d (fun _ d=>ae d [(4,0,2)] (nv p) (congrArg nv (by rw[<-hG,show q=0 by omega,MW])))))
   have zl:=oT O;refine lB 53 O (am (cK (kZ (cR 4 [] mixed d ao ?_))));refine eV 0 54 (mV q) (eV 1 55 (mV p) (eV 2 56 (mV q) (eV 3 57 (mV (p%q)) ?_ (hv:=fun _=>aK (fj (t:=38) (u:=38) (x:=.tmp 55) (y:=.tmp 56) (k:=.u64) (a:=(p:Int)) (b:=(q:Int)) kR kR kR oM _) (dq p q)))));refine bU d (fun _ zq d=>tV 4 10 (mV q) (tV 5 12 (mV (p%q)) (tD ?_)));intro a_ L;refine ⟨_,_,?_,⟨q,p%q,zq,rfl,rfl,d.to _ _,hq,(by have:=z2 p (show 0<q by omega);omega),(by rw[jV];exact hG)⟩,L.to _ kR⟩;have bb:=z2 p (show 0<q by omega)
   omega
  have zk:=eq_of_beq U;exact lB 39 U (am (aa d [.o (nv y) 2 0 2] (lP 4 0 (nc y) d (fun _ d=>ae d [(4,0,2)] (nv y) (congrArg nv (by rw[<-C,show (x%y)=0 by omega,MW]))))))
 have zj:=eq_of_beq W;exact lB 26 W (am (aa d [.o (nv x) 0 0 2] (lP 2 0 (nc x) d (fun _ d=>ae d [(2,0,2)] (nv x) (congrArg nv (by rw[<-K,show y=0 by omega,MW]))))))
theorem pJ (z:Int)(b:Nat)(a:(b:Int)∣z):bB (decide (z.sign<0)) (ab z/b)=z/b:=by
 obtain ⟨k,rfl⟩:=a
 rcases Au b with hb|hb
 ·subst hb;simp[bB,ab]
 have e1:ab ((b:Int)*k)/b=k.natAbs:=by
  unfold ab
  rw[MX,MY,MR _ hb]
 have e2:((b:Int)*k)/b=k:=MZ _ oM;have c:((b:Int)*k).sign=k.sign:=by rw[Int.sign_mul,Int.sign_natCast_of_ne_zero oM,Int.one_mul]
 rw[e1,e2,c]
 unfold bB
 rcases M0 k 0 with h|h|h
 ·rw[M1 h];simp;omega
 ·subst h;simp
 ·rw[M3 h];simp;omega
theorem kS (a b:Rat):∀ g h:Nat,∀ up:Int,g=MC a.den b.den->up=a.num*((b.den/g:Nat):Int)+b.num*((a.den/g:Nat):Int)->h=MC (ab up) g ->
    (a+b).num=up/h/\(a+b).den=(a.den/g)*(b.den/h)/\(h:Int)∣up/\h∣b.den/\0<h/\0<g:=by
  intro g h up c f e;have j:0<g:=by rw[c];exact Nat.gcd_pos_of_pos_left _ a.den_pos
  have p:0<h:=by rw[e];exact M4 _ j
  have y:g∣a.den:=by rw[c];exact M5 _ _
  have u:g∣b.den:=by rw[c];exact M6 _ _
  have x:h∣g:=by rw[e];exact M6 _ _
  have l:(h:Int)∣up:=by
    have h1:h∣up.natAbs:=by rw[e];exact M5 _ _
    exact M7 (M8.2 h1) (M9.2 (Na _))
  have i:h∣b.den:=Nat.dvd_trans x u;refine ⟨?_,?_,l,i,p,j⟩
  . show (Nb a b).num=_
    delta Nb
    dsimp only
    split
    . rename_i h1
      have o:g=1:=by rw[c];exact h1
      dsimp only
      clear h1 c
      subst o;have d:h=1:=by rw[e];simp
      rw[d,f];simp
    . subst c f e
      dsimp only[Nc]
      split
      . rename_i h1
        dsimp only
        unfold ab
        rw[h1];simp
      . dsimp only
        rw[Nd]
        rfl
  . show (Nb a b).den=_
    delta Nb
    dsimp only
    split
    . rename_i h1
      have o:g=1:=by rw[c];exact h1
      dsimp only
      clear h1 c
      subst o;have d:h=1:=by rw[e];simp
      rw[d];simp
    . subst c f e
      dsimp only[Nc]
      split
      . rename_i h1
        dsimp only
        unfold ab
        rw[h1];simp
      . dsimp only
        rw[Nf]
        unfold ab at *
        rw[Nat.mul_div_assoc _ i]
theorem lh (a b:Rat):∀ g h:Nat,g=MC (ab a.num) b.den->h=MC (ab b.num) a.den ->
  (a*b).num=(a.num/g)*(b.num/h)/\(a*b).den=(a.den/h)*(b.den/g)/\(g:Int)∣a.num/\(h:Int)∣b.num/\0<g/\0<h:=by
 intro g h c d;have f:0<g:=by rw[c];exact M4 _ b.den_pos
 have e:0<h:=by rw[d];exact M4 _ a.den_pos
 have i:(g:Int)∣a.num:=by
  have h1:g∣a.num.natAbs:=by rw[c];exact M5 _ _
  exact M7 (M8.2 h1) (M9.2 (Na _))
 have j:(h:Int)∣b.num:=by
  have h1:h∣b.num.natAbs:=by rw[d];exact M5 _ _
  exact M7 (M8.2 h1) (M9.2 (Na _))
 refine ⟨?_,?_,i,j,f,e⟩
 ·show (Ng a b).num=_
  delta Ng
  dsimp only
  rw[Nd,Nd,c,d];rfl
 ·show (Ng a b).den=_
  delta Ng
  dsimp only
  rw[Nf,Nf,c,d];rfl
theorem iD (n:Int)(d:Nat)(a:0<d):(mkRat n d).num=n/(MC (ab n) d:Nat)/\(mkRat n d).den=d/MC (ab n) d/\((MC (ab n) d:Nat):Int)∣n/\0<MC (ab n) d:=by
 have b:((MC (ab n) d:Nat):Int)∣n:=by
  have h1:MC (ab n) d∣n.natAbs:=M5 _ _;exact M7 (M8.2 h1) (M9.2 (Na _))
 unfold mkRat
 rw[dif_neg oM,Rat.normalize_eq];exact ⟨rfl,rfl,b,M4 _ a⟩
theorem uG (b:Rat)(h:b.num≠0):(b⁻¹).num=bB (decide (b.num.sign<0)) b.den/\(b⁻¹).den=ab b.num:=by
 have e:b⁻¹=Rat.inv b:=rfl;rw[e]
 delta Rat.inv
 split
 ·rename_i h1
  rw[M1 h1];simp[bB,ab]
 ·split
  ·rename_i h1
   rw[M3 h1];simp[bB,ab]
  ·omega
def LQ (k:Nat)(q:Rat):Prop:=(wds (ab q.num)).length<=k/\(wds q.den).length<=k
theorem eP (n:Nat)(w:World)(h:Hp)(g:G w h):CV 56 #[.bool false,nv n] w h (iv (n:Int)):=wy n w h g
theorem jP (x y:Int)(d:Nat)(c:d=MC (ab x) (ab y))(a:(wds (ab x)).length<=1000000000)(b:(wds (ab y)).length<=1000000000)(w:World)(h:Hp)(g:G w h)(e:Tab h):CV 79 #[iv x,iv y] w h (nv d):=by
 subst c;exact J9 x y a b w h g e
theorem xh {n:Nat}:nb n=1↔n=1:=by
 rcases Au n with h|h
 ·subst h;simp[nb]
 ·have h1:=cB h
  constructor
  ·intro e;rw[e] at h1;omega
  ·intro e;subst e;rfl
theorem rB {n:Nat}:nb n=0↔n=0:=by
 rcases lu n with ⟨h1,h2⟩|⟨h1,h2⟩<;>omega
theorem me {q:Rat}(h:q.den=1):qd q=0:=by unfold qd;rw[if_pos h]
theorem EN {q:Rat}(h:q.den≠1):qd q=q.den:=by unfold qd;rw[if_neg h]
theorem DJ {q:Rat}:qd q=0↔q.den=1:=by
 unfold qd
 have:=q.den_pos
 split<;>omega
theorem K5 (q:Rat):(((nb (qd q):Nat):Int) == (0:Int))=decide (q.den=1):=by
 rw[Bool.eq_iff_iff]
 simp only[beq_iff_eq,decide_eq_true_eq]
 rw[<-DJ,<-rB]
 omega
theorem jt {q:Rat}{z:Int}{d:Nat}(hz:q.num=z)(a:qd q=d):Value.agg #[.bool (af z),.int .u64 (lo (ab z)),.string (hi (ab z)),.int .u64 (lo d),.string (hi d)]=qv q:=by subst hz a;rfl
theorem LQ.qd {k:Nat}{q:Rat}(h:LQ k q):(wds (qd q)).length<=k:=by
 unfold Go.Proofs.YthfkmhgnndmblaaGreatDoor.qd
 split
 ·exact My _
 ·exact h.2
theorem II (a:Rat)(ha:LQ 1000000000 a)(w:World)(h:Hp)(g:G w h):CV 81 #[iv a.num,nv a.den] w h (qv a):=by
 have b:=sS g;obtain ⟨f,e⟩:=ha;have i:=@xh a.den;refine go Tryz.func81 [(0,iv a.num),(1,nv a.den)] rfl (ax (lA 2 42 (ic a.num) b (fun x w2 y b=>lA 3 40 (nc a.den) b (fun z u l b=>lA 4 44 a6 b (fun p B C b=>ag (aa b [.o (nv a.den) 1 0 2] (aq 6 b (fz a.den cX _ _ b.g) (fun _ _ b=>?_))))))));cases c:(((nb a.den:Nat):Int) == (1:Int))
 .
  have j:=aj c;exact lB 7 c (ah (cK (aa b [.o (iv a.num) 2 0 3,.o (nv a.den) 1 0 2,.v (.agg #[.bool (af a.num),uV (lo (ab a.num)),.string (hi (ab a.num)),uV (lo a.den),.string (hi a.den)])] (lP 0 0 ([.bool (af a.num),uV (lo (ab a.num)),.string (hi (ab a.num)),uV (lo a.den),.string (hi a.den)]) b (fun _ b=>ae b [(0,0,5)] (.agg #[.bool (af a.num),uV (lo (ab a.num)),.string (hi (ab a.num)),uV (lo a.den),.string (hi a.den)]) (jt (q:=a) (d:=a.den) rfl (EN oM)))))))
 have j:=eq_of_beq c;exact lB 7 c (am (aa b [.o (iv a.num) 2 0 3,.v (.agg #[.bool (af a.num),uV (lo (ab a.num)),.string (hi (ab a.num)),uV 0,eS])] (lP 0 0 ([.bool (af a.num),uV (lo (ab a.num)),.string (hi (ab a.num)),uV 0,eS]) b (fun _ b=>ae b [(0,0,5)] (.agg #[.bool (af a.num),uV (lo (ab a.num)),.string (hi (ab a.num)),uV 0,eS]) (jt (q:=a) (d:=0) rfl (me oM))))))
theorem ki (q:Rat)(z:Int)(d:Nat)(hz:q.num=z)(a:d=q.den)(b:LQ 1000000000 q)(w:World)(h:Hp)(g:G w h):CV 81 #[iv z,nv d] w h (qv q):=by
 subst hz a;exact II q b w h g
theorem co (z:Int)(g:Nat)(a:(g:Int)∣z):ab (z/g)<=ab z:=by
 unfold ab
 rcases Au g with h|h
 ·subst h;simp
 ·obtain ⟨k,rfl⟩:=a
  rw[MZ _ oM,MX,MY];exact MS _ h
theorem ip (a b:Nat)(F:0<b)(p:(wds a).length<=1000000000)(j:(wds b).length<=1000000000)(w:World)(h:Hp)(g:G w h):CV 80 #[nv a,nv b] w h (nv (a/b)):=by
 have d:=sS g;have l:=@xh b;refine go Tryz.func80 [(0,nv a),(1,nv b)] rfl (ax (lA 2 40 (nc a) d (fun B w2 C d=>lA 3 40 (nc b) d (fun D z x d=>lA 4 40 ([uV 0,eS]) d (fun y H I d=>ag (aa d [.o (nv b) 1 0 2] (aq 9 d (fz b cX _ _ d.g) (fun _ _ d=>?_))))))));cases e:(((nb b:Nat):Int) == (1:Int))
 .
  have u:=aj e;exact lB 10 e (ah (cK (aa d [.o (nv a) 2 0 2,.o (nv b) 1 0 2] (aq 15 d (JK a b oM aM aM _ _ d.g) (fun _ _ d=>lL d [.c,.v (nv (a/b)),.v (nv (a%b)),.v qT] (lA 5 40 ([uV 0,eS]) d (fun f _ _ d=>lA 6 40 ([uV 0,eS]) d (fun i _ _ d=>lP 1 0 (nc (a/b)) d (fun _ d=>lP 0 0 (nc (a%b)) d (fun _ d=>lL d ac (aG (lL d [.o (nv (a/b)) 1 0 2] (lP 2 0 (nc (a/b)) d (fun _ d=>ae d [(2,0,2)] (nv (a/b)) rfl))))))))))))))
 have u:=eq_of_beq e;exact lB 10 e (am (aa d [.o (nv a) 2 0 2] (lP 0 0 (nc a) d (fun _ d=>ae d [(0,0,2)] (nv a) (by rw[show b=1 by omega,Nat.div_one])))))
theorem l9 (z:Int)(b:Nat)(x:0<b)(d:(b:Int)∣z)(c:(wds (ab z)).length<=1000000000)(e:(wds b).length<=1000000000)(w:World)(h:Hp)(g:G w h):CV 82 #[iv z,nv b] w h (iv (z/b)):=by
 have a:=sS g;have f:(wds (ab z/b)).length<=1000000000:=aw (Gb _ _) c;refine go Tryz.func82 [(0,iv z),(1,nv b)] rfl (ax (lA 2 42 (ic z) a (fun o w2 p a=>lA 3 40 (nc b) a (fun u l i a=>lA 4 42 ([qF,uV 0,eS]) a (fun j y B a=>ag (cR 8 [] mixed a ao ?_))))));exact eO 0 5 [(2,0,3)] (iv z) a (eO 3 8 [(2,0,3)] (iv z) a (eO 5 10 [(1,0,2)] (nv b) a (au 1 6 a (fun _ _ a=>mg z cX _ _ a.g) (fun _ _ a=>eV 2 7 (.bool (decide (((z).sign:Int)<(0:Int)))) (au 4 9 a (fun _ _ a=>wU z _ _ a.g) (fun _ _ a=>au 6 11 a (fun _ _ a=>ip (ab z) b aM cX cX _ _ a.g) (fun _ _ a=>au 7 12 a (fun _ _ a=>f4 (decide (((z).sign:Int)<(0:Int))) ((ab z)/b) cX _ _ a.g) (fun _ _ a=>bU a (fun _ _ a=>tP 8 0 0 (ic (bB (decide (((z).sign:Int)<(0:Int))) ((ab z)/b))) a (fun _ a=>tN (kX (a.ret [(0,0,3)] (iv (bB (decide (((z).sign:Int)<(0:Int))) ((ab z)/b))) (congrArg iv (pJ z b d))))))))))))))
theorem iL (z:Int)(d:Nat)(p:(wds (ab z)).length+(wds d).length<=1000000000)(w:World)(h:Hp)(g:G w h):CV 42 #[iv z,nv d] w h (iv (z*d)):=by
 have a:=sS g;refine go Tryz.func42 [(0,iv z),(1,nv d)] rfl (ax (lA 2 42 (ic z) a (fun f w2 j a=>lA 3 40 (nc d) a (fun o e l a=>lA 4 42 ([qF,uV 0,eS]) a (fun c b i a=>ag (cR 4 [] mixed a ao ?_))))));exact eO 0 5 [(2,0,3)] (iv z) a (eO 1 6 [(1,0,2)] (nv d) a (au 2 7 a (fun _ _ a=>eP d _ _ a.g) (fun _ _ a=>au 3 8 a (fun _ _ a=>Cc z (d:Int) cX _ _ a.g) (fun _ _ a=>bU a (fun _ _ a=>tP 4 0 0 (ic (z*(d:Int))) a (fun _ a=>tN (kX (a.ret [(0,0,3)] (iv (z*(d:Int))) rfl))))))))
theorem mB (a:Rat)(ha:LQ 100000000 a)(w:World)(h:Hp)(g:G w h):CV 39 #[qv a] w h (.bool (decide (a.den=1))):=by
 have b:=sS g;have e:=ha.qd;exact go Tryz.func39 [(0,qv a)] rfl (ax (lA 1 44 (qc a) b (fun d w2 i b=>lL b ac (aG (lL b [.v (qP d 3),.o (nv (qd a)) 0 3 2] (aq 5 b (fz (qd a) cX _ _ b.g) (fun j f b=>lL b [.v (.bool (((nb (qd a):Nat):Int) == (0:Int))),.c] (ae b [] (.bool (((nb (qd a):Nat):Int) == (0:Int))) (congrArg Value.bool (K5 a))))))))))
theorem fP (a:Rat)(ha:LQ 100000000 a)(w:World)(h:Hp)(g:G w h):CV 43 #[qv a] w h (nv a.den):=by
 have b:=sS g;refine go Tryz.func43 [(0,qv a)] rfl (ax (lA 1 44 (qc a) b (fun e w2 j b=>lA 2 40 ([uV 0,eS]) b (fun p i l b=>ag (aa b [.o (qv a) 1 0 5] (aq 4 b (mB a aM _ _ b.g) (fun f u b=>?_)))))));cases d:(decide (a.den=1))
 .
  have c:=oF d;exact ah (cK (aa b [.v (qP e 3),.o (nv (qd a)) 1 3 2] (lP 0 0 (nc (qd a)) b (fun _ b=>ae b [(0,0,2)] (nv (qd a)) (by rw[EN (by simpa using (by assumption:decide (a.den=1)=false))])))))
 have c:=oT d;exact am (ax (aq 5 b (JP 1 oM _ _ b.g) (fun _ _ b=>lP 0 0 (nc 1) b (fun _ b=>ae b [(0,0,2)] (nv 1) (by rw[show a.den=1 by simpa using (by assumption:decide (a.den=1)=true)])))))
theorem KF (a:Rat)(w:World)(h:Hp)(g:G w h):CV 74 #[qv a] w h (iv a.num):=by
 have b:=sS g;exact go Tryz.func74 [(0,qv a)] rfl (ax (lA 1 44 (qc a) b (fun c w2 f b=>lA 2 42 ([qF,uV 0,eS]) b (fun j e i b=>aG (lL b [.v (pB c),.o (iv a.num) 1 0 3] (lP 0 0 (ic a.num) b (fun d b=>ae b [(0,0,3)] (iv a.num) rfl)))))))
theorem jl (a:Rat)(ha:LQ 100000000 a)(w:World)(h:Hp)(g:G w h):CV 40 #[qv a] w h (iV a.num.sign):=by
 have b:=sS g;obtain ⟨e,d⟩:=ha;exact go Tryz.func40 [(0,qv a)] rfl (ax (lA 1 44 (qc a) b (fun c w2 i b=>lL b ac (aG (lL b [.v (pB c),.o (iv a.num) 0 0 3] (aq 5 b (mg a.num cX _ _ b.g) (fun j f b=>lL b ac (ae b [] (iV ((a.num).sign)) rfl))))))))
theorem BC (z:Int)(h0 : -9223372036854775808<=z)(h1:z<=9223372036854775807)(w:World)(h:Hp)(g:G w h):CV 30 #[iV z] w h (qv (z:Rat)):=by
 have a:=sS g;exact go Tryz.func30 [(0,iV z)] rfl (ax (lA 2 44 a6 a (fun c w2 f a=>aG (lL a ac (aq 4 a (K7 z oM oM _ _ a.g) (fun e b a=>lL a [.v (.agg #[.bool (af z),uV (lo (ab z)),.string (hi (ab z)),uV 0,eS])] (lP 0 0 ([.bool (af z),uV (lo (ab z)),.string (hi (ab z)),uV 0,eS]) a (fun i a=>ae a [(0,0,5)] (.agg #[.bool (af z),uV (lo (ab z)),.string (hi (ab z)),uV 0,eS]) (jt (d:=0) (Nh z) (me (Ni z)))))))))))
theorem Iv (a:Rat)(ha:LQ 100000000 a)(w:World)(h:Hp)(g:G w h):CV 299 #[qv a] w h (qv (-a)):=by
 have b:=sS g;obtain ⟨e,d⟩:=ha;refine go Tryz.func299 [(0,qv a)] rfl (ax (lA 1 44 (qc a) b (fun c w2 l b=>lA 2 44 a6 b (fun p j o b=>ag (cR 6 [] mixed b ao ?_)))));exact eV 0 3 (pB c) (eO 1 4 [(1,0,3)] (iv a.num) b (eV 3 6 (qP c 3) (eO 4 7 [(1,3,2)] (nv (qd a)) b (au 2 5 b (fun _ _ b=>JC a.num cX _ _ b.g) (fun f u b=>eV 5 8 (.agg #[.bool (af (-a.num)),uV (lo (ab (-a.num))),.string (hi (ab (-a.num))),uV (lo (qd a)),.string (hi (qd a))]) (bU b (fun i _ b=>tP 6 0 0 ([.bool (af (-a.num)),uV (lo (ab (-a.num))),.string (hi (ab (-a.num))),uV (lo (qd a)),.string (hi (qd a))]) b (fun _ b=>tN (kX (b.ret [(0,0,5)] (.agg #[.bool (af (-a.num)),uV (lo (ab (-a.num))),.string (hi (ab (-a.num))),uV (lo (qd a)),.string (hi (qd a))]) (jt (Nj a) (by unfold qd;rw[Nk]))))))))))))
theorem tg (z:Int)(d:Nat)(p:0<d)(o:(wds (ab z)).length<=1000000000)(i:(wds d).length<=1000000000)(w:World)(h:Hp)(g:G w h)(y:Tab h):CV 101 #[iv z,nv d] w h (qv (mkRat z d)):=by
 have a:=((sS g).aB y);obtain ⟨b,c,e,l⟩:=iD z d p;obtain ⟨q,hq⟩:∃ q,q=MC (ab z) d:=⟨_,rfl⟩;rw[<-hq] at b c e l
 have x:(wds q).length<=1000000000:=aw (by rw[hq];exact Nl _ p) i;have B:LQ 1000000000 (mkRat z d):=⟨by rw[b];exact aw (co z q e) o,by rw[c];exact aw (Gb _ _) i⟩;refine go Tryz.func101 [(0,iv z),(1,nv d)] rfl (ax (lA 2 42 (ic z) a (fun H w2 I a=>lA 3 40 (nc d) a (fun J F C a=>lA 4 44 a6 a (fun D K L a=>ag ?_)))));have j:=a;refine cR 5 [⟨4,5,.cells (MU [uV 0,eS]) 40 (0,0)⟩] mixed a (bw (ee kR (fun _ _=>by kernel_rfl)) ao) (eO 0 6 [(2,0,3)] (iv z) a (eO 1 7 [(1,0,2)] (nv d) a (au 2 8 a (fun _ _ a=>eP d _ _ a.g) (fun _ _ a=>au 3 9 a (fun _ _ a=>jP z (d:Int) q (by first|assumption|exact hq) cX (show (wds d).length<=1000000000 by first|assumption|omega) _ _ a.g a.f.1) (fun _ _ a=>fL [] j a 40 [uV 0,eS] (fun _ _ u a=>tP 5 0 0 (nc q) a (fun _ a=>tN (cQ (cR 7 [] mixed a ao ?_)))))))));exact eO 0 10 [(3,0,3)] (iv z) a (eO 1 11 [(0,0,2)] (nv q) a (eO 3 13 [(2,0,2)] (nv d) a (eO 4 14 [(0,0,2)] (nv q) a (au 2 12 a (fun _ _ a=>l9 z q aM aM cX cX _ _ a.g) (fun _ _ a=>au 5 15 a (fun _ _ a=>ip d q aM cX cX _ _ a.g) (fun _ _ a=>au 6 16 a (fun _ _ a=>ki (mkRat z d) (z/(q:Int)) (d/q) (by first|assumption|exact b|exact (b).symm) (by first|assumption|exact c.symm) aM _ _ a.g) (fun _ _ a=>bU a (fun _ _ a=>tP 7 1 0 (qc (mkRat z d)) a (fun _ a=>tN (kX (a.ret [(1,0,5)] (qv (mkRat z d)) rfl)))))))))))
theorem d8 (a:Rat)(ha:LQ 100000000 a)(h1:a.den=1)(w:World)(h:Hp)(g:G w h):CV 39 #[qv a] w h (.bool true):=by
 have:=mB a ha w h g;rwa [decide_eq_true h1] at this
theorem fQ (a:Rat)(ha:LQ 100000000 a)(h1:a.den≠1)(w:World)(h:Hp)(g:G w h):CV 39 #[qv a] w h (.bool false):=by
 have:=mB a ha w h g;rwa [decide_eq_false h1] at this
theorem Ez (x y z:Int)(e:z=x+y)(a:(wds (ab x)).length+(wds (ab y)).length<=999999999)(w:World)(h:Hp)(g:G w h):CV 78 #[iv x,iv y] w h (iv z):=by
 subst e;exact I3 x y a w h g
theorem iW (x y:Int):(wds (ab (x*y))).length<=(wds (ab x)).length+(wds (ab y)).length:=by
 have:ab (x*y)=ab x*ab y:=MX x y;rw[this];exact dC
theorem dO (x:Int)(d:Nat):(wds (ab (x*((d:Nat):Int)))).length<=(wds (ab x)).length+(wds d).length:=iW x (d:Int)
theorem rj (x y:Int):(wds (ab (x+y))).length<=(wds (ab x)).length+(wds (ab y)).length+1 :=
 ep (dg (show ab (x+y)<=ab x+ab y from Nm x y)) kC
theorem jo {a b:Rat}(ha:a.den=1)(c:b.den=1):(a+b).num=a.num+b.num/\(a+b).den=1:=by
 obtain ⟨e1,e2,h,f,e,d⟩:=kS a b 1 1 (a.num+b.num) (by rw[ha,c];rfl) (by rw[ha,c];simp) (by simp);rw[ha,c] at e2
 exact ⟨by simpa using e1,by simpa using e2⟩
theorem jj {a b:Rat}(ha:a.den=1)(c:b.den=1):(a*b).num=a.num*b.num/\(a*b).den=1:=by
 obtain ⟨e1,e2,h,f,e,d⟩:=lh a b 1 1 (by rw[c];simp) (by rw[ha];simp);rw[ha,c] at e2
 exact ⟨by simpa using e1,by simpa using e2⟩
theorem FO (a b:Rat)(ha:LQ 100000000 a)(y:LQ 100000000 b)(i:a.den=1)(f:b.den=1)(w:World)(h:Hp)(g:G w h)(D:Tab h):CV 37 #[qv a,qv b] w h (qv (a+b)):=by
 have e:=((sS g).aB D);have j:=ha;have l:=y;obtain ⟨z,p⟩:=j;obtain ⟨B,C⟩:=l;exact go Tryz.func37 [(0,qv a),(1,qv b)] rfl (ax (lA 2 44 (qc a) e (fun u w2 J e=>lA 3 44 (qc b) e (fun x I F e=>lA 4 44 a6 e (fun H K L e=>ag (aa e [.o (qv a) 2 0 5] (aq 11 e (d8 a aM aM _ _ e.g) (fun _ _ e=>lL e [.c,.o (qv b) 1 0 5] (aq 14 e (d8 b aM aM _ _ e.g) (fun _ _ e=>lL e [.v qT] (am (aa e [.v (pB u),.o (iv a.num) 2 0 3,.v (pB x),.o (iv b.num) 1 0 3] (aq 20 e (I3 a.num b.num cX _ _ e.g) (fun _ _ e=>lL e [.v (.agg #[.bool (af (a.num+b.num)),uV (lo (ab (a.num+b.num))),.string (hi (ab (a.num+b.num))),uV 0,eS])] (lP 0 0 ([.bool (af (a.num+b.num)),uV (lo (ab (a.num+b.num))),.string (hi (ab (a.num+b.num))),uV 0,eS]) e (fun _ e=>ae e [(0,0,5)] (.agg #[.bool (af (a.num+b.num)),uV (lo (ab (a.num+b.num))),.string (hi (ab (a.num+b.num))),uV 0,eS]) (jt (d:=0) (jo i f).1 (me (jo i f).2))))))))))))))))))
theorem FP (a b:Rat)(ha:LQ 100000000 a)(C:LQ 100000000 b)(U:a.den≠1)(w:World)(h:Hp)(g:G w h)(tb:Tab h):CV 37 #[qv a,qv b] w h (qv (a+b)):=by
 have c:=((sS g).aB tb);have z:=ha;have D:=C;obtain ⟨S,i⟩:=ha;obtain ⟨W,p⟩:=C;obtain ⟨q,hq⟩:∃ q,q=MC a.den b.den:=⟨_,rfl⟩;obtain ⟨up,hup⟩:∃ up,up=a.num*((b.den/q:Nat):Int)+b.num*((a.den/q:Nat):Int):=⟨_,rfl⟩;obtain ⟨r,hr⟩:∃ r,r=MC (ab up) q:=⟨_,rfl⟩;obtain ⟨e,l,y,H,L,x⟩:=kS a b q r up hq hup hr;have B:(wds q).length<=100000000:=aw (by rw[hq];exact MT _ a.den_pos) i;have O:(wds r).length<=100000000:=aw (by rw[hr];exact Nl _ x) B;have X:(wds (a.den/q)).length<=100000000:=aw (Gb _ _) i;have hbq:(wds (b.den/q)).length<=100000000:=aw (Gb _ _) p;have K:(wds (b.den/r)).length<=100000000:=aw (Gb _ _) p;have M:=dO a.num (b.den/q);have V:=dO b.num (a.den/q);have Y:(wds (ab up)).length<=999999999:=ep (by rw[hup];exact rj _ _) oM;have hdl:=@dC (a.den/q) (b.den/r);have Z:LQ 1000000000 (a+b):=⟨by rw[e];exact aw (co up r y) oM,by rw[l];omega⟩;have ha:=z;have C:=D;refine go Tryz.func37 [(0,qv a),(1,qv b)] rfl (ax (lA 2 44 (qc a) c (fun J w2 h3 c=>lA 3 44 (qc b) c (fun F w5 h6 c=>lA 4 44 a6 c (fun I w8 h9 c=>ag (aa c [.o (qv a) 2 0 5] (aq 11 c (fQ a aM aM _ _ c.g) (fun _ _ c=>lL c ac (lG 13 ?_)))))))));refine lG 14 (lL c [.v qF] (ah (cK (cQ ?_))));have d:=c;refine cR 8 [⟨7,5,.cells (MU [uV 0,eS]) 40 (0,0)⟩] mixed c (bw (ee kR (fun _ _=>by kernel_rfl)) ao) (eO 0 22 [(2,0,5)] (qv a) c (eO 3 25 [(1,0,5)] (qv b) c (au 1 23 c (fun _ _ c=>fP a aM _ _ c.g) (fun _ _ c=>au 2 24 c (fun _ _ c=>eP a.den _ _ c.g) (fun _ _ c=>au 4 26 c (fun _ _ c=>fP b aM _ _ c.g) (fun _ _ c=>au 5 27 c (fun _ _ c=>eP b.den _ _ c.g) (fun _ _ c=>au 6 28 c (fun _ _ c=>jP (a.den:Int) (b.den:Int) q (by first|assumption|exact hq) (show (wds a.den).length<=1000000000 by first|assumption|omega) (show (wds b.den).length<=1000000000 by first|assumption|omega) _ _ c.g c.f.1) (fun _ _ c=>fL [] d c 40 [uV 0,eS] (fun _ _ Q c=>tP 8 0 0 (nc q) c (fun _ c=>tN (cQ ?_)))))))))));have d:=c;refine Ci 10 [⟨8,6,.cells (MU [uV 0,eS]) 40 (0,0)⟩,⟨9,7,.cells (MU [uV 0,eS]) 40 (0,0)⟩] [] mixed c (bw (ee kR (fun _ _=>by kernel_rfl)) (bw (ee kR (fun _ _=>by kernel_rfl)) ao)) (eO 0 29 [(3,0,5)] (qv a) c (eO 2 31 [(0,0,2)] (nv q) c (By 4 33 [(2,0,5)] (qv b) d c (By 6 35 [(0,0,2)] (nv q) d c (au 1 30 c (fun _ _ c=>fP a aM _ _ c.g) (fun _ _ c=>au 3 32 c (fun _ _ c=>ip a.den q aM cX cX _ _ c.g) (fun _ _ c=>au 5 34 c (fun _ _ c=>fP b aM _ _ c.g) (fun _ _ c=>au 7 36 c (fun _ _ c=>ip b.den q aM cX cX _ _ c.g) (fun _ _ c=>Gq d c 40 [uV 0,eS] 40 [uV 0,eS] (fun _ _ za b37 j u c=>tP 10 0 0 (nc (a.den/q)) c (fun _ c=>?_) (hz:=iz j)))))))))));refine tP 11 1 0 (nc (b.den/q)) c (fun _ c=>?_) (hz:=iz u);refine tN (cQ ?_);have d:=c;refine cR 10 [⟨9,8,.cells (MU [qF,uV 0,eS]) 42 (0,0)⟩] mixed c (bw (ee kR (fun _ _=>by kernel_rfl)) ao) (eV 0 37 (pB J) (eO 1 38 [(5,0,3)] (iv a.num) c (eO 2 39 [(1,0,2)] (nv (b.den/q)) c (eV 4 41 (pB F) (eO 5 42 [(4,0,3)] (iv b.num) c (eO 6 43 [(0,0,2)] (nv (a.den/q)) c (au 3 40 c (fun _ _ c=>iL a.num (b.den/q) cX _ _ c.g) (fun _ _ c=>au 7 44 c (fun _ _ c=>iL b.num (a.den/q) cX _ _ c.g) (fun _ _ c=>au 8 45 c (fun _ _ c=>Ez (a.num*(((b.den/q):Nat):Int)) (b.num*(((a.den/q):Nat):Int)) up hup oM _ _ c.g) (fun _ _ c=>fL [] d c 42 [qF,uV 0,eS] (fun _ _ zb c=>tP 10 0 0 (ic up) c (fun _ c=>tN (cQ ?_)))))))))))));have d:=c;refine cR 5 [⟨4,9,.cells (MU [uV 0,eS]) 40 (0,0)⟩] mixed c (bw (ee kR (fun _ _=>by kernel_rfl)) ao) (eO 0 46 [(0,0,3)] (iv up) c (eO 1 47 [(3,0,2)] (nv q) c (au 2 48 c (fun _ _ c=>eP q _ _ c.g) (fun _ _ c=>au 3 49 c (fun _ _ c=>jP up (q:Int) r (by first|assumption|exact hr) cX (show (wds q).length<=1000000000 by first|assumption|omega) _ _ c.g c.f.1) (fun _ _ c=>fL [] d c 40 [uV 0,eS] (fun _ _ zc c=>tP 5 0 0 (nc r) c (fun _ c=>tN (bH [(3,pB F),(4,pB I),(6,pB za),(8,pB zb),(9,pB zc)] ?_))))))));refine cQ (cR 10 [] mixed c ao ?_);exact eO 0 50 [(1,0,3)] (iv up) c (eO 1 51 [(0,0,2)] (nv r) c (eO 3 53 [(2,0,2)] (nv (a.den/q)) c (eO 4 54 [(6,0,5)] (qv b) c (eO 6 56 [(0,0,2)] (nv r) c (au 2 52 c (fun _ _ c=>l9 up r aM aM cX cX _ _ c.g) (fun _ _ c=>au 5 55 c (fun _ _ c=>fP b aM _ _ c.g) (fun _ _ c=>au 7 57 c (fun _ _ c=>ip b.den r aM cX cX _ _ c.g) (fun _ _ c=>au 8 58 c (fun _ _ c=>qJ (a.den/q) (b.den/r) cX cX _ _ c.g) (fun _ _ c=>au 9 59 c (fun _ _ c=>ki (a+b) (up/(r:Int)) ((a.den/q)*(b.den/r)) (by first|assumption|exact e|exact (e).symm) (by first|assumption|exact l.symm) aM _ _ c.g) (fun _ _ c=>bU c (fun _ _ c=>tP 10 5 0 (qc (a+b)) c (fun _ c=>tN (kX (c.ret [(5,0,5)] (qv (a+b)) rfl))))))))))))))
theorem F8 (a b:Rat)(ha:LQ 100000000 a)(D:LQ 100000000 b)(X:a.den=1)(S:b.den≠1)(w:World)(h:Hp)(g:G w h)(tb:Tab h):CV 37 #[qv a,qv b] w h (qv (a+b)):=by
 have d:=((sS g).aB tb);have B:=ha;have F:=D;obtain ⟨W,j⟩:=ha;obtain ⟨Z,x⟩:=D;obtain ⟨q,hq⟩:∃ q,q=MC a.den b.den:=⟨_,rfl⟩;obtain ⟨up,hup⟩:∃ up,up=a.num*((b.den/q:Nat):Int)+b.num*((a.den/q:Nat):Int):=⟨_,rfl⟩;obtain ⟨r,hr⟩:∃ r,r=MC (ab up) q:=⟨_,rfl⟩;obtain ⟨i,p,z,I,M,y⟩:=kS a b q r up hq hup hr;have C:(wds q).length<=100000000:=aw (by rw[hq];exact MT _ a.den_pos) j;have Q:(wds r).length<=100000000:=aw (by rw[hr];exact Nl _ y) C;have haq:(wds (a.den/q)).length<=100000000:=aw (Gb _ _) j;have hbq:(wds (b.den/q)).length<=100000000:=aw (Gb _ _) x;have L:(wds (b.den/r)).length<=100000000:=aw (Gb _ _) x;have O:=dO a.num (b.den/q);have Y:=dO b.num (a.den/q);have hul:(wds (ab up)).length<=999999999:=ep (by rw[hup];exact rj _ _) oM;have hdl:=@dC (a.den/q) (b.den/r);have hLQ:LQ 1000000000 (a+b):=⟨by rw[i];exact aw (co up r z) oM,by rw[p];omega⟩;have ha:=B;have D:=F;refine go Tryz.func37 [(0,qv a),(1,qv b)] rfl (ax (lA 2 44 (qc a) d (fun K w2 h3 d=>lA 3 44 (qc b) d (fun H w5 h6 d=>lA 4 44 a6 d (fun J w8 h9 d=>ag (aa d [.o (qv a) 2 0 5] (aq 11 d (d8 a aM aM _ _ d.g) (fun _ _ d=>lL d [.c,.o (qv b) 1 0 5] (aq 14 d (fQ b aM aM _ _ d.g) (fun _ _ d=>lL d [.v qF] (ah (cK (cQ ?_)))))))))))));have e:=d;refine cR 8 [⟨7,5,.cells (MU [uV 0,eS]) 40 (0,0)⟩] mixed d (bw (ee kR (fun _ _=>by kernel_rfl)) ao) (eO 0 22 [(2,0,5)] (qv a) d (eO 3 25 [(1,0,5)] (qv b) d (au 1 23 d (fun _ _ d=>fP a aM _ _ d.g) (fun _ _ d=>au 2 24 d (fun _ _ d=>eP a.den _ _ d.g) (fun _ _ d=>au 4 26 d (fun _ _ d=>fP b aM _ _ d.g) (fun _ _ d=>au 5 27 d (fun _ _ d=>eP b.den _ _ d.g) (fun _ _ d=>au 6 28 d (fun _ _ d=>jP (a.den:Int) (b.den:Int) q (by first|assumption|exact hq) (show (wds a.den).length<=1000000000 by first|assumption|omega) (show (wds b.den).length<=1000000000 by first|assumption|omega) _ _ d.g d.f.1) (fun _ _ d=>fL [] e d 40 [uV 0,eS] (fun _ _ U d=>tP 8 0 0 (nc q) d (fun _ d=>tN (cQ ?_)))))))))));have e:=d;refine Ci 10 [⟨8,6,.cells (MU [uV 0,eS]) 40 (0,0)⟩,⟨9,7,.cells (MU [uV 0,eS]) 40 (0,0)⟩] [] mixed d (bw (ee kR (fun _ _=>by kernel_rfl)) (bw (ee kR (fun _ _=>by kernel_rfl)) ao)) (eO 0 29 [(3,0,5)] (qv a) d (eO 2 31 [(0,0,2)] (nv q) d (By 4 33 [(2,0,5)] (qv b) e d (By 6 35 [(0,0,2)] (nv q) e d (au 1 30 d (fun _ _ d=>fP a aM _ _ d.g) (fun _ _ d=>au 3 32 d (fun _ _ d=>ip a.den q aM cX cX _ _ d.g) (fun _ _ d=>au 5 34 d (fun _ _ d=>fP b aM _ _ d.g) (fun _ _ d=>au 7 36 d (fun _ _ d=>ip b.den q aM cX cX _ _ d.g) (fun _ _ d=>Gq e d 40 [uV 0,eS] 40 [uV 0,eS] (fun _ _ za V l u d=>tP 10 0 0 (nc (a.den/q)) d (fun _ d=>?_) (hz:=iz l)))))))))));refine tP 11 1 0 (nc (b.den/q)) d (fun _ d=>?_) (hz:=iz u);refine tN (cQ ?_);have e:=d;refine cR 10 [⟨9,8,.cells (MU [qF,uV 0,eS]) 42 (0,0)⟩] mixed d (bw (ee kR (fun _ _=>by kernel_rfl)) ao) (eV 0 37 (pB K) (eO 1 38 [(5,0,3)] (iv a.num) d (eO 2 39 [(1,0,2)] (nv (b.den/q)) d (eV 4 41 (pB H) (eO 5 42 [(4,0,3)] (iv b.num) d (eO 6 43 [(0,0,2)] (nv (a.den/q)) d (au 3 40 d (fun _ _ d=>iL a.num (b.den/q) cX _ _ d.g) (fun _ _ d=>au 7 44 d (fun _ _ d=>iL b.num (a.den/q) cX _ _ d.g) (fun _ _ d=>au 8 45 d (fun _ _ d=>Ez (a.num*(((b.den/q):Nat):Int)) (b.num*(((a.den/q):Nat):Int)) up hup oM _ _ d.g) (fun _ _ d=>fL [] e d 42 [qF,uV 0,eS] (fun _ _ zb d=>tP 10 0 0 (ic up) d (fun _ d=>tN (cQ ?_)))))))))))));have e:=d;refine cR 5 [⟨4,9,.cells (MU [uV 0,eS]) 40 (0,0)⟩] mixed d (bw (ee kR (fun _ _=>by kernel_rfl)) ao) (eO 0 46 [(0,0,3)] (iv up) d (eO 1 47 [(3,0,2)] (nv q) d (au 2 48 d (fun _ _ d=>eP q _ _ d.g) (fun _ _ d=>au 3 49 d (fun _ _ d=>jP up (q:Int) r (by first|assumption|exact hr) cX (show (wds q).length<=1000000000 by first|assumption|omega) _ _ d.g d.f.1) (fun _ _ d=>fL [] e d 40 [uV 0,eS] (fun _ _ zc d=>tP 5 0 0 (nc r) d (fun _ d=>tN (bH [(3,pB H),(4,pB J),(6,pB za),(8,pB zb),(9,pB zc)] ?_))))))));refine cQ (cR 10 [] mixed d ao ?_);exact eO 0 50 [(1,0,3)] (iv up) d (eO 1 51 [(0,0,2)] (nv r) d (eO 3 53 [(2,0,2)] (nv (a.den/q)) d (eO 4 54 [(6,0,5)] (qv b) d (eO 6 56 [(0,0,2)] (nv r) d (au 2 52 d (fun _ _ d=>l9 up r aM aM cX cX _ _ d.g) (fun _ _ d=>au 5 55 d (fun _ _ d=>fP b aM _ _ d.g) (fun _ _ d=>au 7 57 d (fun _ _ d=>ip b.den r aM cX cX _ _ d.g) (fun _ _ d=>au 8 58 d (fun _ _ d=>qJ (a.den/q) (b.den/r) cX cX _ _ d.g) (fun _ _ d=>au 9 59 d (fun _ _ d=>ki (a+b) (up/(r:Int)) ((a.den/q)*(b.den/r)) (by first|assumption|exact i|exact (i).symm) (by first|assumption|exact p.symm) aM _ _ d.g) (fun _ _ d=>bU d (fun _ _ d=>tP 10 5 0 (qc (a+b)) d (fun _ d=>tN (kX (d.ret [(5,0,5)] (qv (a+b)) rfl))))))))))))))
theorem sq (a b:Rat)(ha:LQ 100000000 a)(d:LQ 100000000 b)(w:World)(h:Hp)(g:G w h)(c:Tab h):CV 37 #[qv a,qv b] w h (qv (a+b)):=by
 by_cases h1:a.den=1
 ·by_cases h2:b.den=1
  ·exact FO a b ha d h1 h2 w h g c
  ·exact F8 a b ha d h1 h2 w h g c
 ·exact FP a b ha d h1 w h g c
theorem Gj (a b:Rat)(ha:LQ 100000000 a)(y:LQ 100000000 b)(i:a.den=1)(f:b.den=1)(w:World)(h:Hp)(g:G w h)(D:Tab h):CV 38 #[qv a,qv b] w h (qv (a*b)):=by
 have e:=((sS g).aB D);have j:=ha;have l:=y;obtain ⟨z,p⟩:=j;obtain ⟨B,C⟩:=l;exact go Tryz.func38 [(0,qv a),(1,qv b)] rfl (ax (lA 2 44 (qc a) e (fun u w2 J e=>lA 3 44 (qc b) e (fun x I F e=>lA 4 44 a6 e (fun H K L e=>ag (aa e [.o (qv a) 2 0 5] (aq 8 e (d8 a aM aM _ _ e.g) (fun _ _ e=>lL e [.c,.o (qv b) 1 0 5] (aq 11 e (d8 b aM aM _ _ e.g) (fun _ _ e=>lL e [.v qT] (am (aa e [.v (pB u),.o (iv a.num) 2 0 3,.v (pB x),.o (iv b.num) 1 0 3] (aq 17 e (Cc a.num b.num cX _ _ e.g) (fun _ _ e=>lL e [.v (.agg #[.bool (af (a.num*b.num)),uV (lo (ab (a.num*b.num))),.string (hi (ab (a.num*b.num))),uV 0,eS])] (lP 0 0 ([.bool (af (a.num*b.num)),uV (lo (ab (a.num*b.num))),.string (hi (ab (a.num*b.num))),uV 0,eS]) e (fun _ e=>ae e [(0,0,5)] (.agg #[.bool (af (a.num*b.num)),uV (lo (ab (a.num*b.num))),.string (hi (ab (a.num*b.num))),uV 0,eS]) (jt (d:=0) (jj i f).1 (me (jj i f).2))))))))))))))))))
theorem Gc (a b:Rat)(ha:LQ 100000000 a)(x:LQ 100000000 b)(V:a.den≠1)(w:World)(h:Hp)(g:G w h)(tb:Tab h):CV 38 #[qv a,qv b] w h (qv (a*b)):=by
 have c:=((sS g).aB tb);have u:=ha;have z:=x;obtain ⟨y,i⟩:=ha;obtain ⟨B,l⟩:=x;obtain ⟨q,hq⟩:∃ q,q=MC (ab a.num) b.den:=⟨_,rfl⟩;obtain ⟨r,hr⟩:∃ r,r=MC (ab b.num) a.den:=⟨_,rfl⟩;obtain ⟨e,j,p,C,I,L⟩:=lh a b q r hq hr;have M:(wds q).length<=100000000:=aw (by rw[hq];exact Nl _ b.den_pos) l;have Q:(wds r).length<=100000000:=aw (by rw[hr];exact Nl _ a.den_pos) i;have W:(wds (ab (a.num/(q:Int)))).length<=100000000:=aw (co _ _ p) y;have K:(wds (ab (b.num/(r:Int)))).length<=100000000:=aw (co _ _ C) B;have U:(wds (a.den/r)).length<=100000000:=aw (Gb _ _) i;have Z:(wds (b.den/q)).length<=100000000:=aw (Gb _ _) l;have Y:=@dC (a.den/r) (b.den/q);have H:=iW (a.num/(q:Int)) (b.num/(r:Int));have X:LQ 1000000000 (a*b):=⟨by rw[e];omega,by rw[j];omega⟩;have ha:=u;have x:=z;refine go Tryz.func38 [(0,qv a),(1,qv b)] rfl (ax (lA 2 44 (qc a) c (fun D w2 h3 c=>lA 3 44 (qc b) c (fun F w5 h6 c=>lA 4 44 a6 c (fun J w8 h9 c=>ag (aa c [.o (qv a) 2 0 5] (aq 8 c (fQ a aM aM _ _ c.g) (fun _ _ c=>lL c ac (lG 10 ?_)))))))));refine lG 11 (lL c [.v qF] (ah (cK (cQ ?_))));have d:=c;refine cR 7 [⟨6,5,.cells (MU [uV 0,eS]) 40 (0,0)⟩] mixed c (bw (ee kR (fun _ _=>by kernel_rfl)) ao) (eV 0 19 (pB D) (eO 1 20 [(2,0,3)] (iv a.num) c (eO 2 21 [(1,0,5)] (qv b) c (au 3 22 c (fun _ _ c=>fP b aM _ _ c.g) (fun _ _ c=>au 4 23 c (fun _ _ c=>eP b.den _ _ c.g) (fun _ _ c=>au 5 24 c (fun _ _ c=>jP a.num (b.den:Int) q (by first|assumption|exact hq) cX (show (wds b.den).length<=1000000000 by first|assumption|omega) _ _ c.g c.f.1) (fun _ _ c=>fL [] d c 40 [uV 0,eS] (fun _ _ O c=>tP 7 0 0 (nc q) c (fun _ c=>tN (cQ ?_))))))))));have d:=c;refine cR 7 [⟨6,6,.cells (MU [uV 0,eS]) 40 (0,0)⟩] mixed c (bw (ee kR (fun _ _=>by kernel_rfl)) ao) (eV 0 25 (pB F) (eO 1 26 [(2,0,3)] (iv b.num) c (eO 2 27 [(3,0,5)] (qv a) c (au 3 28 c (fun _ _ c=>fP a aM _ _ c.g) (fun _ _ c=>au 4 29 c (fun _ _ c=>eP a.den _ _ c.g) (fun _ _ c=>au 5 30 c (fun _ _ c=>jP b.num (a.den:Int) r (by first|assumption|exact hr) cX (show (wds a.den).length<=1000000000 by first|assumption|omega) _ _ c.g c.f.1) (fun _ _ c=>fL [] d c 40 [uV 0,eS] (fun _ _ S c=>tP 7 0 0 (nc r) c (fun _ c=>tN (cQ (cR 19 [] mixed c ao ?_)))))))))));refine eV 0 31 (pB D) (eO 1 32 [(4,0,3)] (iv a.num) c (eO 2 33 [(1,0,2)] (nv q) c (eV 4 35 (pB F) (eO 5 36 [(3,0,3)] (iv b.num) c (eO 6 37 [(0,0,2)] (nv r) c (eO 9 40 [(4,0,5)] (qv a) c (eO 11 42 [(0,0,2)] (nv r) c (eO 13 44 [(3,0,5)] (qv b) c (eO 15 46 [(1,0,2)] (nv q) c (au 3 34 c (fun _ _ c=>l9 a.num q aM aM cX cX _ _ c.g) (fun _ _ c=>au 7 38 c (fun _ _ c=>l9 b.num r aM aM cX cX _ _ c.g) (fun _ _ c=>au 8 39 c (fun _ _ c=>Cc (a.num/(q:Int)) (b.num/(r:Int)) cX _ _ c.g) (fun _ _ c=>au 10 41 c (fun _ _ c=>fP a aM _ _ c.g) (fun _ _ c=>au 12 43 c (fun _ _ c=>ip a.den r aM cX cX _ _ c.g) (fun _ _ c=>au 14 45 c (fun _ _ c=>fP b aM _ _ c.g) (fun _ _ c=>au 16 47 c (fun _ _ c=>ip b.den q aM cX cX _ _ c.g) (fun _ _ c=>au 17 48 c (fun _ _ c=>qJ (a.den/r) (b.den/q) cX cX _ _ c.g) (fun _ _ c=>au 18 49 c (fun _ _ c=>ki (a*b) ((a.num/(q:Int))*(b.num/(r:Int))) ((a.den/r)*(b.den/q)) (by first|assumption|exact e|exact (e).symm) (by first|assumption|exact j.symm) aM _ _ c.g) (fun _ _ c=>bU c (fun _ _ c=>tP 19 2 0 (qc (a*b)) c (fun _ c=>tN (bH [(4,pB J)] ?_))))))))))))))))))))));exact kX (c.ret [(2,0,5)] (qv (a*b)) rfl)
theorem Fs (a b:Rat)(ha:LQ 100000000 a)(y:LQ 100000000 b)(W:a.den=1)(U:b.den≠1)(w:World)(h:Hp)(g:G w h)(tb:Tab h):CV 38 #[qv a,qv b] w h (qv (a*b)):=by
 have d:=((sS g).aB tb);have x:=ha;have B:=y;obtain ⟨z,j⟩:=ha;obtain ⟨C,p⟩:=y;obtain ⟨q,hq⟩:∃ q,q=MC (ab a.num) b.den:=⟨_,rfl⟩;obtain ⟨r,hr⟩:∃ r,r=MC (ab b.num) a.den:=⟨_,rfl⟩;obtain ⟨i,l,u,D,J,O⟩:=lh a b q r hq hr;have Q:(wds q).length<=100000000:=aw (by rw[hq];exact Nl _ b.den_pos) p;have S:(wds r).length<=100000000:=aw (by rw[hr];exact Nl _ a.den_pos) j;have Y:(wds (ab (a.num/(q:Int)))).length<=100000000:=aw (co _ _ u) z;have M:(wds (ab (b.num/(r:Int)))).length<=100000000:=aw (co _ _ D) C;have V:(wds (a.den/r)).length<=100000000:=aw (Gb _ _) j;have hbq:(wds (b.den/q)).length<=100000000:=aw (Gb _ _) p;have hdl:=@dC (a.den/r) (b.den/q);have I:=iW (a.num/(q:Int)) (b.num/(r:Int));have Z:LQ 1000000000 (a*b):=⟨by rw[i];omega,by rw[l];omega⟩;have ha:=x;have y:=B;refine go Tryz.func38 [(0,qv a),(1,qv b)] rfl (ax (lA 2 44 (qc a) d (fun F w2 h3 d=>lA 3 44 (qc b) d (fun H w5 h6 d=>lA 4 44 a6 d (fun L w8 h9 d=>ag (aa d [.o (qv a) 2 0 5] (aq 8 d (d8 a aM aM _ _ d.g) (fun _ _ d=>lL d [.c,.o (qv b) 1 0 5] (aq 11 d (fQ b aM aM _ _ d.g) (fun _ _ d=>lL d [.v qF] (ah (cK (cQ ?_)))))))))))));have e:=d;refine cR 7 [⟨6,5,.cells (MU [uV 0,eS]) 40 (0,0)⟩] mixed d (bw (ee kR (fun _ _=>by kernel_rfl)) ao) (eV 0 19 (pB F) (eO 1 20 [(2,0,3)] (iv a.num) d (eO 2 21 [(1,0,5)] (qv b) d (au 3 22 d (fun _ _ d=>fP b aM _ _ d.g) (fun _ _ d=>au 4 23 d (fun _ _ d=>eP b.den _ _ d.g) (fun _ _ d=>au 5 24 d (fun _ _ d=>jP a.num (b.den:Int) q (by first|assumption|exact hq) cX (show (wds b.den).length<=1000000000 by first|assumption|omega) _ _ d.g d.f.1) (fun _ _ d=>fL [] e d 40 [uV 0,eS] (fun _ _ X d=>tP 7 0 0 (nc q) d (fun _ d=>tN (cQ ?_))))))))));have e:=d;refine cR 7 [⟨6,6,.cells (MU [uV 0,eS]) 40 (0,0)⟩] mixed d (bw (ee kR (fun _ _=>by kernel_rfl)) ao) (eV 0 25 (pB H) (eO 1 26 [(2,0,3)] (iv b.num) d (eO 2 27 [(3,0,5)] (qv a) d (au 3 28 d (fun _ _ d=>fP a aM _ _ d.g) (fun _ _ d=>au 4 29 d (fun _ _ d=>eP a.den _ _ d.g) (fun _ _ d=>au 5 30 d (fun _ _ d=>jP b.num (a.den:Int) r (by first|assumption|exact hr) cX (show (wds a.den).length<=1000000000 by first|assumption|omega) _ _ d.g d.f.1) (fun _ _ d=>fL [] e d 40 [uV 0,eS] (fun _ _ K d=>tP 7 0 0 (nc r) d (fun _ d=>tN (cQ (cR 19 [] mixed d ao ?_)))))))))));refine eV 0 31 (pB F) (eO 1 32 [(4,0,3)] (iv a.num) d (eO 2 33 [(1,0,2)] (nv q) d (eV 4 35 (pB H) (eO 5 36 [(3,0,3)] (iv b.num) d (eO 6 37 [(0,0,2)] (nv r) d (eO 9 40 [(4,0,5)] (qv a) d (eO 11 42 [(0,0,2)] (nv r) d (eO 13 44 [(3,0,5)] (qv b) d (eO 15 46 [(1,0,2)] (nv q) d (au 3 34 d (fun _ _ d=>l9 a.num q aM aM cX cX _ _ d.g) (fun _ _ d=>au 7 38 d (fun _ _ d=>l9 b.num r aM aM cX cX _ _ d.g) (fun _ _ d=>au 8 39 d (fun _ _ d=>Cc (a.num/(q:Int)) (b.num/(r:Int)) cX _ _ d.g) (fun _ _ d=>au 10 41 d (fun _ _ d=>fP a aM _ _ d.g) (fun _ _ d=>au 12 43 d (fun _ _ d=>ip a.den r aM cX cX _ _ d.g) (fun _ _ d=>au 14 45 d (fun _ _ d=>fP b aM _ _ d.g) (fun _ _ d=>au 16 47 d (fun _ _ d=>ip b.den q aM cX cX _ _ d.g) (fun _ _ d=>au 17 48 d (fun _ _ d=>qJ (a.den/r) (b.den/q) cX cX _ _ d.g) (fun _ _ d=>au 18 49 d (fun _ _ d=>ki (a*b) ((a.num/(q:Int))*(b.num/(r:Int))) ((a.den/r)*(b.den/q)) (by first|assumption|exact i|exact (i).symm) (by first|assumption|exact l.symm) aM _ _ d.g) (fun _ _ d=>bU d (fun _ _ d=>tP 19 2 0 (qc (a*b)) d (fun _ d=>tN (bH [(4,pB L)] ?_))))))))))))))))))))));exact kX (d.ret [(2,0,5)] (qv (a*b)) rfl)
theorem kP (a b:Rat)(ha:LQ 100000000 a)(d:LQ 100000000 b)(w:World)(h:Hp)(g:G w h)(c:Tab h):CV 38 #[qv a,qv b] w h (qv (a*b)):=by
 by_cases h1:a.den=1
 ·by_cases h2:b.den=1
  ·exact Gj a b ha d h1 h2 w h g c
  ·exact Fs a b ha d h1 h2 w h g c
 ·exact Gc a b ha d h1 w h g c
theorem LQ.neg {k:Nat}{a:Rat}(h:LQ k a):LQ k (-a):=⟨by rw[Nj];unfold ab;rw[Np];exact h.1,by rw[Nk];exact h.2⟩
theorem LQ.add {k l:Nat}{a b:Rat}(ha:LQ k a)(u:LQ l b):LQ (k+l+1) (a+b):=by
 obtain ⟨x,d⟩:=ha;obtain ⟨z,c⟩:=u;obtain ⟨q,hq⟩:∃ q,q=MC a.den b.den:=⟨_,rfl⟩;obtain ⟨up,hup⟩:∃ up,up=a.num*((b.den/q:Nat):Int)+b.num*((a.den/q:Nat):Int):=⟨_,rfl⟩;obtain ⟨r,hr⟩:∃ r,r=MC (ab up) q:=⟨_,rfl⟩;obtain ⟨h,f,e,F,o,i⟩:=kS a b q r up hq hup hr;have B:=aw (Gb a.den q) d;have D:=aw (Gb b.den q) c;have j:=aw (Gb b.den r) c;have p:=dO a.num (b.den/q);have y:=dO b.num (a.den/q);have C:=@dC (a.den/q) (b.den/r);refine ⟨?_,by rw[f];omega⟩;rw[h];refine aw (co up r e) ?_;rw[hup];exact ep (dg (show ab _<=ab _+ab _ from Nm _ _)) (pN oM oM)
theorem LQ.mul {k l:Nat}{a b:Rat}(ha:LQ k a)(x:LQ l b):LQ (k+l) (a*b):=by
 obtain ⟨e,d⟩:=ha;obtain ⟨h,j⟩:=x;obtain ⟨f,c,o,i,y,u⟩:=lh a b _ _ rfl rfl;refine ⟨?_,?_⟩
 ·rw[f]
  have h1:=aw (co _ _ o) e;have p:=aw (co _ _ i) h;exact ep (iW _ _) oM
 ·rw[c]
  have h1:=aw (Gb a.den (MC (ab b.num) a.den)) d;have p:=aw (Gb b.den (MC (ab a.num) b.den)) j;exact ep dC oM
theorem LQ.mono {k l:Nat}{a:Rat}(h:LQ k a)(b:k<=l):LQ l a:=⟨ep h.1 b,ep h.2 b⟩
def cZ (a b:Rat):Int:=eh (a.num*b.den) (b.num*a.den)
theorem fZ {a b:Rat}(h1:a.den=1)(c:b.den=1):eh a.num b.num=cZ a b:=by unfold cZ;rw[h1,c];simp
theorem gV {a b:Rat}(h:(a.num.sign != b.num.sign)=true):eh a.num b.num=cZ a b:=by
 have h:a.num.sign≠b.num.sign:=by simpa using h
 have ha:=a.den_pos;have e:=b.den_pos
 unfold cZ eh
 rcases M0 a.num 0 with p|p|p<;>rcases M0 b.num 0 with q|q|q
 ·exact absurd (by rw[M1 p,M1 q]) h
 ·have:a.num*(b.den:Int)<0:=Nq p oM
  rw[q];simp;rw[if_pos p,if_pos this]
 ·have d:a.num*(b.den:Int)<0:=Nq p oM
  have c:0<b.num*(a.den:Int):=Nr q oM;rw[if_pos oM,if_pos oM]
 ·have:b.num*(a.den:Int)<0:=Nq q oM
  rw[p];simp;rw[if_neg oM,if_pos q,if_neg oM,if_pos this]
 ·exact absurd (by rw[p,q]) h
 ·have:0<b.num*(a.den:Int):=Nr q oM
  rw[p];simp;rw[if_pos q,if_pos this]
 ·have d:0<a.num*(b.den:Int):=Nr p oM
  have c:b.num*(a.den:Int)<0:=Nq q oM;rw[if_neg oM,if_pos oM,if_neg oM,if_pos oM]
 ·have:0<a.num*(b.den:Int):=Nr p oM
  rw[q];simp;rw[if_neg oM,if_pos p,if_neg oM,if_pos this]
 ·exact absurd (by rw[M3 p,M3 q]) h
theorem GI (a b:Rat)(ha:LQ 100000000 a)(x:LQ 100000000 b)(i:a.den=1)(e:b.den=1)(w:World)(h:Hp)(g:G w h):CV 16 #[qv a,qv b] w h (iV (cZ a b)):=by
 have c:=sS g;have d:=ha;have f:=x;obtain ⟨y,j⟩:=d;obtain ⟨B,C⟩:=f;have u:=dO a.num b.den;have z:=dO b.num a.den;refine go Tryz.func16 [(0,qv a),(1,qv b)] rfl (ax (lA 2 44 (qc a) c (fun l w2 I c=>lA 3 44 (qc b) c (fun p H F c=>lL c ac (ag (cQ (cR 13 [] mixed c ao ?_)))))));exact eO 0 5 [(1,0,5)] (qv a) c (au 1 6 c (fun _ _ c=>d8 a aM aM _ _ c.g) (fun D K c=>eV 2 7 qT (eO 3 8 [(0,0,5)] (qv b) c (au 4 9 c (fun _ _ c=>d8 b aM aM _ _ c.g) (fun J _ c=>eV 5 10 qT (eV 6 11 qT (eG 7 12 (eG 8 13 (eG 9 14 (eG 10 15 (eG 11 16 (eV 12 17 qT (bU c (fun _ _ c=>tN (ct (aa c [.v (pB l),.o (iv a.num) 1 0 3,.v (pB p),.o (iv b.num) 0 0 3] (aq 22 c (AE a.num b.num cX cX _ _ c.g) (fun _ _ c=>lL c ac (ae c [] (iV (eh a.num b.num)) (congrArg (Value.int .i64) (by first|rfl|exact fZ i e|exact gV ‹_›)))))))))))))))))))))
theorem GB (a b:Rat)(ha:LQ 100000000 a)(x:LQ 100000000 b)(d:a.den≠1)(w:World)(h:Hp)(g:G w h):CV 16 #[qv a,qv b] w h (iV (cZ a b)):=by
 have c:=sS g;have f:=ha;have i:=x;obtain ⟨y,p⟩:=f;obtain ⟨B,C⟩:=i;have u:=dO a.num b.den;have z:=dO b.num a.den;refine go Tryz.func16 [(0,qv a),(1,qv b)] rfl (ax (lA 2 44 (qc a) c (fun j w2 J c=>lA 3 44 (qc b) c (fun l I H c=>lL c ac (ag (cQ (cR 13 [] mixed c ao ?_)))))));refine eO 0 5 [(1,0,5)] (qv a) c (au 1 6 c (fun _ _ c=>fQ a aM aM _ _ c.g) (fun F L c=>eV 2 7 qF (eG 3 8 (eG 4 9 (eV 5 10 qF (eV 6 11 qF (eO 7 12 [(1,0,5)] (qv a) c (eO 9 14 [(0,0,5)] (qv b) c (au 8 13 c (fun _ _ c=>jl a aM _ _ c.g) (fun K _ c=>au 10 15 c (fun _ _ c=>jl b aM _ _ c.g) (fun _ _ c=>?_)))))))))));cases e:(((a.num).sign:Int) != ((b.num).sign:Int))
 .
  have D:=aJ e;refine eB 11 16 e (eV 12 17 qF (bU c (fun _ _ c=>tN (dD (cK (cQ (cR 11 [] mixed c ao ?_)))))));exact eV 0 23 (pB j) (eO 1 24 [(1,0,3)] (iv a.num) c (eO 2 25 [(0,0,5)] (qv b) c (eV 5 28 (pB l) (eO 6 29 [(0,0,3)] (iv b.num) c (eO 7 30 [(1,0,5)] (qv a) c (au 3 26 c (fun _ _ c=>fP b aM _ _ c.g) (fun _ _ c=>au 4 27 c (fun _ _ c=>iL a.num b.den cX _ _ c.g) (fun _ _ c=>au 8 31 c (fun _ _ c=>fP a aM _ _ c.g) (fun _ _ c=>au 9 32 c (fun _ _ c=>iL b.num a.den cX _ _ c.g) (fun _ _ c=>au 10 33 c (fun _ _ c=>AE (a.num*(b.den:Int)) (b.num*(a.den:Int)) cX cX _ _ c.g) (fun _ _ c=>bU c (fun _ _ c=>tV 11 4 (iV (eh (a.num*(b.den:Int)) (b.num*(a.den:Int)))) (tN (kX (c.ret [] (iV (eh (a.num*(b.den:Int)) (b.num*(a.den:Int)))) (congrArg (Value.int .i64) (by first|rfl|exact fZ d hwb|exact gV ‹_›)))))))))))))))))
 have D:=aI e;exact eB 11 16 e (eV 12 17 qT (bU c (fun _ _ c=>tN (ct (aa c [.v (pB j),.o (iv a.num) 1 0 3,.v (pB l),.o (iv b.num) 0 0 3] (aq 22 c (AE a.num b.num cX cX _ _ c.g) (fun _ _ c=>lL c ac (ae c [] (iV (eh a.num b.num)) (congrArg (Value.int .i64) (by first|rfl|exact fZ d hwb|exact gV ‹_›))))))))))
theorem FK (a b:Rat)(ha:LQ 100000000 a)(y:LQ 100000000 b)(e:a.den=1)(d:b.den≠1)(w:World)(h:Hp)(g:G w h):CV 16 #[qv a,qv b] w h (iV (cZ a b)):=by
 have c:=sS g;have i:=ha;have j:=y;obtain ⟨z,u⟩:=i;obtain ⟨C,D⟩:=j;have x:=dO a.num b.den;have B:=dO b.num a.den;refine go Tryz.func16 [(0,qv a),(1,qv b)] rfl (ax (lA 2 44 (qc a) c (fun l w2 K c=>lA 3 44 (qc b) c (fun p J I c=>lL c ac (ag (cQ (cR 13 [] mixed c ao ?_)))))));refine eO 0 5 [(1,0,5)] (qv a) c (au 1 6 c (fun _ _ c=>d8 a aM aM _ _ c.g) (fun H M c=>eV 2 7 qT (eO 3 8 [(0,0,5)] (qv b) c (au 4 9 c (fun _ _ c=>fQ b aM aM _ _ c.g) (fun L _ c=>eV 5 10 qF (eV 6 11 qF (eO 7 12 [(1,0,5)] (qv a) c (eO 9 14 [(0,0,5)] (qv b) c (au 8 13 c (fun _ _ c=>jl a aM _ _ c.g) (fun _ _ c=>au 10 15 c (fun _ _ c=>jl b aM _ _ c.g) (fun _ _ c=>?_)))))))))));cases f:(((a.num).sign:Int) != ((b.num).sign:Int))
 .
  have F:=aJ f;refine eB 11 16 f (eV 12 17 qF (bU c (fun _ _ c=>tN (dD (cK (cQ (cR 11 [] mixed c ao ?_)))))));exact eV 0 23 (pB l) (eO 1 24 [(1,0,3)] (iv a.num) c (eO 2 25 [(0,0,5)] (qv b) c (eV 5 28 (pB p) (eO 6 29 [(0,0,3)] (iv b.num) c (eO 7 30 [(1,0,5)] (qv a) c (au 3 26 c (fun _ _ c=>fP b aM _ _ c.g) (fun _ _ c=>au 4 27 c (fun _ _ c=>iL a.num b.den cX _ _ c.g) (fun _ _ c=>au 8 31 c (fun _ _ c=>fP a aM _ _ c.g) (fun _ _ c=>au 9 32 c (fun _ _ c=>iL b.num a.den cX _ _ c.g) (fun _ _ c=>au 10 33 c (fun _ _ c=>AE (a.num*(b.den:Int)) (b.num*(a.den:Int)) cX cX _ _ c.g) (fun _ _ c=>bU c (fun _ _ c=>tV 11 4 (iV (eh (a.num*(b.den:Int)) (b.num*(a.den:Int)))) (tN (kX (c.ret [] (iV (eh (a.num*(b.den:Int)) (b.num*(a.den:Int)))) (congrArg (Value.int .i64) (by first|rfl|exact fZ e d|exact gV ‹_›)))))))))))))))))
 have F:=aI f;exact eB 11 16 f (eV 12 17 qT (bU c (fun _ _ c=>tN (ct (aa c [.v (pB l),.o (iv a.num) 1 0 3,.v (pB p),.o (iv b.num) 0 0 3] (aq 22 c (AE a.num b.num cX cX _ _ c.g) (fun _ _ c=>lL c ac (ae c [] (iV (eh a.num b.num)) (congrArg (Value.int .i64) (by first|rfl|exact fZ e d|exact gV ‹_›))))))))))
theorem I2 (a b:Rat)(ha:LQ 100000000 a)(c:LQ 100000000 b)(w:World)(h:Hp)(g:G w h):CV 16 #[qv a,qv b] w h (iV (cZ a b)):=by
 by_cases h1:a.den=1
 ·by_cases h2:b.den=1
  ·exact GI a b ha c h1 h2 w h g
  ·exact FK a b ha c h1 h2 w h g
 ·exact GB a b ha c h1 w h g
theorem iX {a b:Rat}:cZ a b<0↔a<b:=by
 unfold cZ eh
 rw[Rat.lt_iff]
 split
 ·simp;assumption
 ·split<;>simp<;>omega
theorem jb {a b:Rat}:cZ a b>0↔b<a:=by
 unfold cZ eh
 rw[Rat.lt_iff]
 split
 ·simp;omega
 ·split<;>simp<;>omega
def mkR (n d:Int):Rat:=mkRat (if d<0 then -n else n) (ab d)
theorem GD (n d:Int)(i:d<0)(e:(wds (ab n)).length<=1000000000)(z:(wds (ab d)).length<=1000000000)(w:World)(h:Hp)(g:G w h)(y:Tab h):CV 54 #[iv n,iv d] w h (.tuple #[qv (mkR n d),.bool true]):=by
 have a:=((sS g).aB y);have l:=M1 i;have u:0<ab d:=by unfold ab;omega
 have x:(wds (ab (-n))).length<=1000000000:=by unfold ab;rw[Np];exact e
 refine go Tryz.func54 [(0,iv n),(1,iv d)] rfl (ax (lA 2 42 (ic n) a (fun H w2 I a=>lA 3 42 (ic d) a (fun J F C a=>lA 4 44 a6 a (fun D K L a=>lL a ac (ag (aa a [.o (iv d) 1 0 3] (aq 7 a (mg d cX _ _ a.g) (fun _ _ a=>?_)))))))));have j:(((d).sign:Int) == (0:Int))=false:=eU oM;have c:=aj j;refine lB 8 j (ah (cK (cQ (aa a [.o (iv d) 1 0 3] (aq 11 a (mg d cX _ _ a.g) (fun _ _ a=>?_))))));have ⟨B,b⟩:=dT (p:=((d).sign:Int)<(0:Int)) oM;refine lB 12 B (am (kQ (lL a [.o (iv n) 2 0 3] (aq 14 a (JC n cX _ _ a.g) (fun _ _ a=>lP 2 0 (ic (-n)) a (fun _ a=>ag (cR 4 [] mixed a ao ?_)))))));exact eO 0 15 [(2,0,3)] (iv (-n)) a (eO 1 16 [(1,0,3)] (iv d) a (au 2 17 a (fun _ _ a=>wU d _ _ a.g) (fun _ _ a=>au 3 18 a (fun _ _ a=>tg (-n) (ab d) cX cX cX _ _ a.g a.f.1) (fun _ _ a=>bU a (fun _ _ a=>tP 4 0 0 (qc (mkRat (-n) (ab d))) a (fun _ a=>tV 5 5 qT (tN (kX (a.ret [(0,0,5)] (.tuple #[qv (mkRat (-n) (ab d)),qT]) (by unfold mkR;rw[if_pos i]))))))))))
theorem GQ (n d:Int)(j:0<d)(y:(wds (ab n)).length<=1000000000)(x:(wds (ab d)).length<=1000000000)(w:World)(h:Hp)(g:G w h)(u:Tab h):CV 54 #[iv n,iv d] w h (.tuple #[qv (mkR n d),.bool true]):=by
 have a:=((sS g).aB u);have i:=M3 j;have l:0<ab d:=by unfold ab;omega
 refine go Tryz.func54 [(0,iv n),(1,iv d)] rfl (ax (lA 2 42 (ic n) a (fun F w2 H a=>lA 3 42 (ic d) a (fun I D B a=>lA 4 44 a6 a (fun C J K a=>lL a ac (ag (aa a [.o (iv d) 1 0 3] (aq 7 a (mg d cX _ _ a.g) (fun _ _ a=>?_)))))))));have e:(((d).sign:Int) == (0:Int))=false:=eU oM;have c:=aj e;refine lB 8 e (ah (cK (cQ (aa a [.o (iv d) 1 0 3] (aq 11 a (mg d cX _ _ a.g) (fun _ _ a=>?_))))));have ⟨z,b⟩:=dF (p:=((d).sign:Int)<(0:Int)) oM;refine lB 12 z (ah (cK (cQ (cR 4 [] mixed a ao ?_))));exact eO 0 15 [(2,0,3)] (iv n) a (eO 1 16 [(1,0,3)] (iv d) a (au 2 17 a (fun _ _ a=>wU d _ _ a.g) (fun _ _ a=>au 3 18 a (fun _ _ a=>tg n (ab d) cX cX cX _ _ a.g a.f.1) (fun _ _ a=>bU a (fun _ _ a=>tP 4 0 0 (qc (mkRat n (ab d))) a (fun _ a=>tV 5 5 qT (tN (kX (a.ret [(0,0,5)] (.tuple #[qv (mkRat n (ab d)),qT]) (by unfold mkR;rw[if_neg oM]))))))))))
theorem Jd (n d:Int)(e:d≠0)(a:(wds (ab n)).length<=1000000000)(b:(wds (ab d)).length<=1000000000)(w:World)(h:Hp)(g:G w h)(c:Tab h):CV 54 #[iv n,iv d] w h (.tuple #[qv (mkR n d),.bool true]):=by
 rcases M0 d 0 with h1|h1|h1
 ·exact GD n d h1 a b w h g c
 ·exact absurd h1 e
 ·exact GQ n d h1 a b w h g c
theorem Ey (a b:Rat)(ha:LQ 100000000 a)(F:LQ 100000000 b)(hz:b.num≠0)(w:World)(h:Hp)(g:G w h)(I:Tab h):CV 298 #[qv a,qv b] w h (.tuple #[qv (a/b),.bool true]):=by
 have c:=((sS g).aB I);have l:=ha;have x:=F;obtain ⟨H,C⟩:=l;obtain ⟨y,z⟩:=x;have j:((b.num).sign == (0:Int))=false:=by simpa using hz
 obtain ⟨i,d⟩:=uG b hz;have p:(wds (ab (bB (decide ((b.num).sign<(0:Int))) b.den))).length<=100000000:=by rw[ft];exact z
 have u:LQ 100000000 b⁻¹:=⟨by rw[i];exact p,by rw[d];exact y⟩;have B:LQ 1000000000 b⁻¹:=u.mono oM;refine go Tryz.func298 [(0,qv a),(1,qv b)] rfl (ax (lA 2 44 (qc a) c (fun M w2 O c=>lA 3 44 (qc b) c (fun D L J c=>lA 4 44 a6 c (fun K Q S c=>lL c ac (ag (aa c [.o (qv b) 1 0 5] (aq 7 c (jl b aM _ _ c.g) (fun _ _ c=>lV 8 qF ?_ (hr:=rb (e:=((b.num).sign == (0:Int))) kR j))))))))));refine ah (cK (cQ (cR 12 [] mixed c ao ?_)));exact eO 0 10 [(2,0,5)] (qv a) c (eO 1 11 [(1,0,5)] (qv b) c (eO 4 14 [(1,0,5)] (qv b) c (eV 7 17 (pB D) (eO 8 18 [(1,0,3)] (iv b.num) c (au 2 12 c (fun _ _ c=>jl b aM _ _ c.g) (fun _ _ c=>eV 3 13 (.bool (decide (((b.num).sign:Int)<(0:Int)))) (au 5 15 c (fun _ _ c=>fP b aM _ _ c.g) (fun _ _ c=>au 6 16 c (fun _ _ c=>f4 (decide (((b.num).sign:Int)<(0:Int))) b.den cX _ _ c.g) (fun _ _ c=>au 9 19 c (fun _ _ c=>wU b.num _ _ c.g) (fun _ _ c=>au 10 20 c (fun _ _ c=>ki b⁻¹ (bB (decide (((b.num).sign:Int)<(0:Int))) b.den) (ab b.num) i d.symm aM _ _ c.g) (fun _ _ c=>au 11 21 c (fun _ _ c=>kP a (b⁻¹) aM aM _ _ c.g c.f.1) (fun _ _ c=>bU c (fun _ _ c=>tP 12 0 0 (qc (a*(b⁻¹))) c (fun _ c=>tV 13 5 qT (tN (kX (c.ret [(0,0,5)] (.tuple #[qv (a*(b⁻¹)),qT]) (by rw[Rat.div_def]))))))))))))))))))
theorem ii (x:Int)(A:Z9)(c:Nat)(C:(lim (ab x)).length<=c)(J:(lim (ab x)).length<=2000000000)(y:Int)(D:Z9)(d:Nat)(p:(lim (ab y)).length<=d)(F:(lim (ab y)).length<=2000000000)(w:World)(h:Hp)(g:G w h)(I:S3 A (lim (ab x)) h)(o:S3 D (lim (ab y)) h):CR 150 #[.agg #[.bool (af x),.slice A ((lim (ab x)).length) c],.agg #[.bool (af y),.slice D ((lim (ab y)).length) d]] w h (fun v h1=>RI h1 v (x*y)):=by
 have a:=(((sS g).aS I).aS o);refine go Tryz.func150 [(0,.agg #[.bool (af x),qS A ((lim (ab x)).length) c]),(1,.agg #[.bool (af y),qS D ((lim (ab y)).length) d])] rfl (ax (lA 2 26 ([.bool (af x),qS A ((lim (ab x)).length) c]) a (fun b w2 Q a=>lA 3 26 ([.bool (af y),qS D ((lim (ab y)).length) d]) a (fun e O L a=>lA 4 26 ([qF,sZ]) a (fun M S U a=>ag (cR 11 [] mixed a ao ?_))))));refine eV 0 5 (pB b) (eO 1 6 [(2,0,1)] (.bool (af x)) a (eV 2 7 (pB e) (eO 3 8 [(1,0,1)] (.bool (af y)) a (eV 4 9 (.bool ((af x) != (af y))) (eV 5 10 (qP b 1) (eO 6 11 [(2,1,1)] (qS A ((lim (ab x)).length) c) a (eV 7 12 (qP e 1) (eO 8 13 [(1,1,1)] (qS D ((lim (ab y)).length) d) a (eC 9 14 a (fun _ _ a=>oC (ab x) A c C (ab y) D d p oM oM _ _ a.g a.f.2.1 a.f.1) ?_)))))))));rintro _ _ _ _ _ a ⟨z,u,rfl,K,H⟩;replace a:=a.aS H;refine eC 10 15 a (fun _ _ a=>rI ((af x) != (af y)) ((ab x)*(ab y)) z u K _ _ a.g a.f.1) ?_;rintro _ _ _ _ _ a ⟨i,j,rfl,l,B⟩;replace a:=a.aS B;exact bU a (fun _ _ a=>tP 11 0 0 ([.bool (af (bB ((af x) != (af y)) ((ab x)*(ab y)))),qS i ((lim (ab (bB ((af x) != (af y)) ((ab x)*(ab y))))).length) j]) a (fun _ a=>tN (kX (a.ret [(0,0,2)] (.agg #[.bool (af (bB ((af x) != (af y)) ((ab x)*(ab y)))),qS i ((lim (ab (bB ((af x) != (af y)) ((ab x)*(ab y))))).length) j]) (by rw[<-ma x y];exact ⟨_,_,rfl,l,a.f.1⟩)))))
theorem wu (x:Int)(A:Z9)(c:Nat)(l:(lim (ab x)).length<=c)(u:(lim (ab x)).length<=2000000000)(j:af x=false)(w:World)(h:Hp)(g:G w h)(p:S3 A (lim (ab x)) h):CR 207 #[.agg #[.bool false,.slice A ((lim (ab x)).length) c]] w h (fun v h1=>RI h1 v (-x)):=by
 have a:=((sS g).aS p);refine go Tryz.func207 [(0,.agg #[qF,qS A ((lim (ab x)).length) c])] rfl (ax (lA 1 26 ([qF,qS A ((lim (ab x)).length) c]) a (fun i w2 C a=>lA 2 26 ([qF,sZ]) a (fun D B z a=>aG (lL a [.v (pB i),.o qF 1 0 1,.v qT,.v (qP i 1),.o (qS A ((lim (ab x)).length) c) 1 1 1] (lC 8 a (rI true (ab x) A c l _ _ a.g a.f.1) ?_))))));rintro _ _ _ a ⟨e,d,rfl,b,y⟩;replace a:=a.aS y;exact lP 0 0 ([.bool (af (bB true (ab x))),qS e ((lim (ab (bB true (ab x)))).length) d]) a (fun _ a=>ae a [(0,0,2)] (.agg #[.bool (af (bB true (ab x))),qS e ((lim (ab (bB true (ab x)))).length) d]) (by rw[<-kW x,j];exact ⟨_,_,rfl,b,a.f.1⟩))
theorem wA (x:Int)(A:Z9)(c:Nat)(l:(lim (ab x)).length<=c)(u:(lim (ab x)).length<=2000000000)(j:af x=true)(w:World)(h:Hp)(g:G w h)(p:S3 A (lim (ab x)) h):CR 207 #[.agg #[.bool true,.slice A ((lim (ab x)).length) c]] w h (fun v h1=>RI h1 v (-x)):=by
 have a:=((sS g).aS p);refine go Tryz.func207 [(0,.agg #[qT,qS A ((lim (ab x)).length) c])] rfl (ax (lA 1 26 ([qT,qS A ((lim (ab x)).length) c]) a (fun i w2 C a=>lA 2 26 ([qF,sZ]) a (fun D B z a=>aG (lL a [.v (pB i),.o qT 1 0 1,.v qF,.v (qP i 1),.o (qS A ((lim (ab x)).length) c) 1 1 1] (lC 8 a (rI false (ab x) A c l _ _ a.g a.f.1) ?_))))));rintro _ _ _ a ⟨e,d,rfl,b,y⟩;replace a:=a.aS y;exact lP 0 0 ([.bool (af (bB false (ab x))),qS e ((lim (ab (bB false (ab x)))).length) d]) a (fun _ a=>ae a [(0,0,2)] (.agg #[.bool (af (bB false (ab x))),qS e ((lim (ab (bB false (ab x)))).length) d]) (by rw[<-kW x,j];exact ⟨_,_,rfl,b,a.f.1⟩))
theorem ux (x:Int)(A:Z9)(c:Nat)(d:(lim (ab x)).length<=c)(a:(lim (ab x)).length<=2000000000)(w:World)(h:Hp)(g:G w h)(b:S3 A (lim (ab x)) h):CR 207 #[.agg #[.bool (af x),.slice A (lim (ab x)).length c]] w h (fun v h1=>RI h1 v (-x)):=by
 rcases hx:af x with _|_
 ·exact wu x A c d a hx w h g b
 ·exact wA x A c d a hx w h g b
theorem vI (x:Int)(A:Z9)(c:Nat)(K:(lim (ab x)).length<=c)(Q:(lim (ab x)).length<=2000000000)(y:Int)(D:Z9)(d:Nat)(C:(lim (ab y)).length<=d)(L:(lim (ab y)).length<=2000000000)(p:af x=false)(l:af y=false)(w:World)(h:Hp)(g:G w h)(O:S3 A (lim (ab x)) h)(B:S3 D (lim (ab y)) h):CR 177 #[.agg #[.bool false,.slice A ((lim (ab x)).length) c],.agg #[.bool false,.slice D ((lim (ab y)).length) d]] w h (fun v h1=>RI h1 v (x+y)):=by
 have a:=(((sS g).aS O).aS B);have H:=a8 p;have z:=a8 l;refine go Tryz.func177 [(0,.agg #[qF,qS A ((lim (ab x)).length) c]),(1,.agg #[qF,qS D ((lim (ab y)).length) d])] rfl (ax (lA 2 26 ([qF,qS A ((lim (ab x)).length) c]) a (fun b w2 X a=>lA 3 26 ([qF,qS D ((lim (ab y)).length) d]) a (fun e W U a=>lA 4 26 ([qF,sZ]) a (fun V Y Z a=>ag (aa a [.v (pB b),.o qF 2 0 1,.v (pB e),.o qF 1 0 1,.v qT] (am (cQ (cR 8 [] mixed a ao ?_)))))))));refine eV 0 10 (pB b) (eO 1 11 [(2,0,1)] qF a (eV 2 12 (qP b 1) (eO 3 13 [(2,1,1)] (qS A ((lim (ab x)).length) c) a (eV 4 14 (qP e 1) (eO 5 15 [(1,1,1)] (qS D ((lim (ab y)).length) d) a (eC 6 16 a (fun _ _ a=>uY (ab x) A c K (ab y) D d C oM oM _ _ a.g a.f.2.1 a.f.1) ?_))))));rintro _ _ _ _ _ a ⟨I,F,rfl,S,M⟩;replace a:=a.aS M;refine eC 7 17 a (fun _ _ a=>rI false ((ab x)+(ab y)) I F S _ _ a.g a.f.1) ?_;rintro _ _ _ _ _ a ⟨i,j,rfl,u,J⟩;replace a:=a.aS J;exact bU a (fun _ _ a=>tP 8 0 0 ([.bool (af (bB false ((ab x)+(ab y)))),qS i ((lim (ab (bB false ((ab x)+(ab y))))).length) j]) a (fun _ a=>tN (kX (a.ret [(0,0,2)] (.agg #[.bool (af (bB false ((ab x)+(ab y)))),qS i ((lim (ab (bB false ((ab x)+(ab y))))).length) j]) (by rw[show x+y=(bB false ((ab x)+(ab y))) by unfold bB ab at *;simp;omega];exact ⟨_,_,rfl,u,a.f.1⟩)))))
theorem vV (x:Int)(A:Z9)(c:Nat)(l:(lim (ab x)).length<=c)(hLx:(lim (ab x)).length<=2000000000)(y:Int)(D:Z9)(d:Nat)(j:(lim (ab y)).length<=d)(hLy:(lim (ab y)).length<=2000000000)(H:af x=false)(C:af y=true)(w:World)(h:Hp)(g:G w h)(hA:S3 A (lim (ab x)) h)(J:S3 D (lim (ab y)) h):CR 177 #[.agg #[.bool false,.slice A ((lim (ab x)).length) c],.agg #[.bool true,.slice D ((lim (ab y)).length) d]] w h (fun v h1=>RI h1 v (x+y)):=by
 have a:=(((sS g).aS hA).aS J);have O:=a8 H;have I:=bj C;refine go Tryz.func177 [(0,.agg #[qF,qS A ((lim (ab x)).length) c]),(1,.agg #[qT,qS D ((lim (ab y)).length) d])] rfl (ax (lA 2 26 ([qF,qS A ((lim (ab x)).length) c]) a (fun b w2 h3 a=>lA 3 26 ([qT,qS D ((lim (ab y)).length) d]) a (fun e w5 h6 a=>lA 4 26 ([qF,sZ]) a (fun b7 w8 h9 a=>ag (aa a [.v (pB b),.o qF 2 0 1,.v (pB e),.o qT 1 0 1,.v qF] (ah (cK (cQ (aa a [.v (qP b 1),.o (qS A ((lim (ab x)).length) c) 2 1 1,.v (qP e 1),.o (qS D ((lim (ab y)).length) d) 1 1 1] (aq 22 a (gy (ab x) A c l (ab y) D d j oM oM _ _ a.g a.f.2.1 a.f.1) (fun _ _ a=>?_))))))))))));have F:=g9 (ab x) (ab y);cases i:(decide ((0:Int)<=(bZ (ab x) (ab y):Int)))
 .
  have zb:=oF i;refine lB 23 i (ah (cK (cQ (cR 8 [] mixed a ao ?_))));refine eV 0 32 (pB e) (eO 1 33 [(1,0,1)] qT a (eV 2 34 (qP e 1) (eO 3 35 [(1,1,1)] (qS D ((lim (ab y)).length) d) a (eV 4 36 (qP b 1) (eO 5 37 [(2,1,1)] (qS A ((lim (ab x)).length) c) a (eC 6 38 a (fun _ _ a=>kz (ab y) D d j (ab x) A c l oM oM oM _ _ a.g a.f.1 a.f.2.1) ?_))))));rintro _ _ _ _ _ a ⟨K,W,rfl,U,M⟩;replace a:=a.aS M;refine eC 7 39 a (fun _ _ a=>rI true ((ab y)-(ab x)) K W U _ _ a.g a.f.1) ?_;rintro _ _ _ _ _ a ⟨B,z,rfl,zj,Z⟩;replace a:=a.aS Z;exact bU a (fun _ _ a=>tP 8 0 0 ([.bool (af (bB true ((ab y)-(ab x)))),qS B ((lim (ab (bB true ((ab y)-(ab x))))).length) z]) a (fun _ a=>tN (kX (a.ret [(0,0,2)] (.agg #[.bool (af (bB true ((ab y)-(ab x)))),qS B ((lim (ab (bB true ((ab y)-(ab x))))).length) z]) (by rw[show x+y=(bB true ((ab y)-(ab x))) by unfold bB ab at *;simp;omega];exact ⟨_,_,rfl,zj,a.f.1⟩)))))
 have zb:=oT i;refine lB 23 i (am (cQ (cR 8 [] mixed a ao ?_)));refine eV 0 24 (pB b) (eO 1 25 [(2,0,1)] qF a (eV 2 26 (qP b 1) (eO 3 27 [(2,1,1)] (qS A ((lim (ab x)).length) c) a (eV 4 28 (qP e 1) (eO 5 29 [(1,1,1)] (qS D ((lim (ab y)).length) d) a (eC 6 30 a (fun _ _ a=>kz (ab x) A c l (ab y) D d j oM oM oM _ _ a.g a.f.2.1 a.f.1) ?_))))));rintro _ _ _ _ _ a ⟨Q,S,rfl,X,Y⟩;replace a:=a.aS Y;refine eC 7 31 a (fun _ _ a=>rI false ((ab x)-(ab y)) Q S X _ _ a.g a.f.1) ?_;rintro _ _ _ _ _ a ⟨p,u,rfl,V,L⟩;replace a:=a.aS L;exact bU a (fun _ _ a=>tP 8 0 0 ([.bool (af (bB false ((ab x)-(ab y)))),qS p ((lim (ab (bB false ((ab x)-(ab y))))).length) u]) a (fun _ a=>tN (kX (a.ret [(0,0,2)] (.agg #[.bool (af (bB false ((ab x)-(ab y)))),qS p ((lim (ab (bB false ((ab x)-(ab y))))).length) u]) (by rw[show x+y=(bB false ((ab x)-(ab y))) by unfold bB ab at *;simp;omega];exact ⟨_,_,rfl,V,a.f.1⟩)))))
theorem vK (x:Int)(A:Z9)(c:Nat)(l:(lim (ab x)).length<=c)(hLx:(lim (ab x)).length<=2000000000)(y:Int)(D:Z9)(d:Nat)(j:(lim (ab y)).length<=d)(hLy:(lim (ab y)).length<=2000000000)(H:af x=true)(C:af y=false)(w:World)(h:Hp)(g:G w h)(hA:S3 A (lim (ab x)) h)(J:S3 D (lim (ab y)) h):CR 177 #[.agg #[.bool true,.slice A ((lim (ab x)).length) c],.agg #[.bool false,.slice D ((lim (ab y)).length) d]] w h (fun v h1=>RI h1 v (x+y)):=by
 have a:=(((sS g).aS hA).aS J);have O:=bj H;have I:=a8 C;refine go Tryz.func177 [(0,.agg #[qT,qS A ((lim (ab x)).length) c]),(1,.agg #[qF,qS D ((lim (ab y)).length) d])] rfl (ax (lA 2 26 ([qT,qS A ((lim (ab x)).length) c]) a (fun b w2 h3 a=>lA 3 26 ([qF,qS D ((lim (ab y)).length) d]) a (fun e w5 h6 a=>lA 4 26 ([qF,sZ]) a (fun b7 w8 h9 a=>ag (aa a [.v (pB b),.o qT 2 0 1,.v (pB e),.o qF 1 0 1,.v qF] (ah (cK (cQ (aa a [.v (qP b 1),.o (qS A ((lim (ab x)).length) c) 2 1 1,.v (qP e 1),.o (qS D ((lim (ab y)).length) d) 1 1 1] (aq 22 a (gy (ab x) A c l (ab y) D d j oM oM _ _ a.g a.f.2.1 a.f.1) (fun _ _ a=>?_))))))))))));have F:=g9 (ab x) (ab y);cases i:(decide ((0:Int)<=(bZ (ab x) (ab y):Int)))
 .
  have zb:=oF i;refine lB 23 i (ah (cK (cQ (cR 8 [] mixed a ao ?_))));refine eV 0 32 (pB e) (eO 1 33 [(1,0,1)] qF a (eV 2 34 (qP e 1) (eO 3 35 [(1,1,1)] (qS D ((lim (ab y)).length) d) a (eV 4 36 (qP b 1) (eO 5 37 [(2,1,1)] (qS A ((lim (ab x)).length) c) a (eC 6 38 a (fun _ _ a=>kz (ab y) D d j (ab x) A c l oM oM oM _ _ a.g a.f.1 a.f.2.1) ?_))))));rintro _ _ _ _ _ a ⟨K,W,rfl,U,M⟩;replace a:=a.aS M;refine eC 7 39 a (fun _ _ a=>rI false ((ab y)-(ab x)) K W U _ _ a.g a.f.1) ?_;rintro _ _ _ _ _ a ⟨B,z,rfl,zj,Z⟩;replace a:=a.aS Z;exact bU a (fun _ _ a=>tP 8 0 0 ([.bool (af (bB false ((ab y)-(ab x)))),qS B ((lim (ab (bB false ((ab y)-(ab x))))).length) z]) a (fun _ a=>tN (kX (a.ret [(0,0,2)] (.agg #[.bool (af (bB false ((ab y)-(ab x)))),qS B ((lim (ab (bB false ((ab y)-(ab x))))).length) z]) (by rw[show x+y=(bB false ((ab y)-(ab x))) by unfold bB ab at *;simp;omega];exact ⟨_,_,rfl,zj,a.f.1⟩)))))
 have zb:=oT i;refine lB 23 i (am (cQ (cR 8 [] mixed a ao ?_)));refine eV 0 24 (pB b) (eO 1 25 [(2,0,1)] qT a (eV 2 26 (qP b 1) (eO 3 27 [(2,1,1)] (qS A ((lim (ab x)).length) c) a (eV 4 28 (qP e 1) (eO 5 29 [(1,1,1)] (qS D ((lim (ab y)).length) d) a (eC 6 30 a (fun _ _ a=>kz (ab x) A c l (ab y) D d j oM oM oM _ _ a.g a.f.2.1 a.f.1) ?_))))));rintro _ _ _ _ _ a ⟨Q,S,rfl,X,Y⟩;replace a:=a.aS Y;refine eC 7 31 a (fun _ _ a=>rI true ((ab x)-(ab y)) Q S X _ _ a.g a.f.1) ?_;rintro _ _ _ _ _ a ⟨p,u,rfl,V,L⟩;replace a:=a.aS L;exact bU a (fun _ _ a=>tP 8 0 0 ([.bool (af (bB true ((ab x)-(ab y)))),qS p ((lim (ab (bB true ((ab x)-(ab y))))).length) u]) a (fun _ a=>tN (kX (a.ret [(0,0,2)] (.agg #[.bool (af (bB true ((ab x)-(ab y)))),qS p ((lim (ab (bB true ((ab x)-(ab y))))).length) u]) (by rw[show x+y=(bB true ((ab x)-(ab y))) by unfold bB ab at *;simp;omega];exact ⟨_,_,rfl,V,a.f.1⟩)))))
theorem vL (x:Int)(A:Z9)(c:Nat)(K:(lim (ab x)).length<=c)(Q:(lim (ab x)).length<=2000000000)(y:Int)(D:Z9)(d:Nat)(C:(lim (ab y)).length<=d)(L:(lim (ab y)).length<=2000000000)(p:af x=true)(l:af y=true)(w:World)(h:Hp)(g:G w h)(O:S3 A (lim (ab x)) h)(B:S3 D (lim (ab y)) h):CR 177 #[.agg #[.bool true,.slice A ((lim (ab x)).length) c],.agg #[.bool true,.slice D ((lim (ab y)).length) d]] w h (fun v h1=>RI h1 v (x+y)):=by
 have a:=(((sS g).aS O).aS B);have H:=bj p;have z:=bj l;refine go Tryz.func177 [(0,.agg #[qT,qS A ((lim (ab x)).length) c]),(1,.agg #[qT,qS D ((lim (ab y)).length) d])] rfl (ax (lA 2 26 ([qT,qS A ((lim (ab x)).length) c]) a (fun b w2 X a=>lA 3 26 ([qT,qS D ((lim (ab y)).length) d]) a (fun e W U a=>lA 4 26 ([qF,sZ]) a (fun V Y Z a=>ag (aa a [.v (pB b),.o qT 2 0 1,.v (pB e),.o qT 1 0 1,.v qT] (am (cQ (cR 8 [] mixed a ao ?_)))))))));refine eV 0 10 (pB b) (eO 1 11 [(2,0,1)] qT a (eV 2 12 (qP b 1) (eO 3 13 [(2,1,1)] (qS A ((lim (ab x)).length) c) a (eV 4 14 (qP e 1) (eO 5 15 [(1,1,1)] (qS D ((lim (ab y)).length) d) a (eC 6 16 a (fun _ _ a=>uY (ab x) A c K (ab y) D d C oM oM _ _ a.g a.f.2.1 a.f.1) ?_))))));rintro _ _ _ _ _ a ⟨I,F,rfl,S,M⟩;replace a:=a.aS M;refine eC 7 17 a (fun _ _ a=>rI true ((ab x)+(ab y)) I F S _ _ a.g a.f.1) ?_;rintro _ _ _ _ _ a ⟨i,j,rfl,u,J⟩;replace a:=a.aS J;exact bU a (fun _ _ a=>tP 8 0 0 ([.bool (af (bB true ((ab x)+(ab y)))),qS i ((lim (ab (bB true ((ab x)+(ab y))))).length) j]) a (fun _ a=>tN (kX (a.ret [(0,0,2)] (.agg #[.bool (af (bB true ((ab x)+(ab y)))),qS i ((lim (ab (bB true ((ab x)+(ab y))))).length) j]) (by rw[show x+y=(bB true ((ab x)+(ab y))) by unfold bB ab at *;simp;omega];exact ⟨_,_,rfl,u,a.f.1⟩)))))
theorem uQ (x:Int)(A:Z9)(c:Nat)(f:(lim (ab x)).length<=c)(b:(lim (ab x)).length<=2000000000)(y:Int)(D:Z9)(d:Nat)(e:(lim (ab y)).length<=d)(a:(lim (ab y)).length<=2000000000)(w:World)(h:Hp)(g:G w h)(i:S3 A (lim (ab x)) h)(j:S3 D (lim (ab y)) h):CR 177 #[.agg #[.bool (af x),.slice A (lim (ab x)).length c],.agg #[.bool (af y),.slice D (lim (ab y)).length d]] w h (fun v h1=>RI h1 v (x+y)):=by
 rcases hx:af x with _|_<;>rcases hy:af y with _|_
 ·exact vI x A c f b y D d e a hx hy w h g i j
 ·exact vV x A c f b y D d e a hx hy w h g i j
 ·exact vK x A c f b y D d e a hx hy w h g i j
 ·exact vL x A c f b y D d e a hx hy w h g i j
theorem vO (x:Int)(A:Z9)(c:Nat)(p:(lim (ab x)).length<=c)(f:(lim (ab x)).length<=2000000000)(hz:x=0)(w:World)(h:Hp)(g:G w h)(e:S3 A (lim (ab x)) h):CV 146 #[.agg #[.bool (af x),.slice A ((lim (ab x)).length) c]] w h (iV x.sign):=by
 have a:=((sS g).aS e);have j:=@bT (ab x);have l:ab x=x.natAbs:=rfl;refine go Tryz.func146 [(0,.agg #[.bool (af x),qS A ((lim (ab x)).length) c])] rfl (ax (lA 1 26 ([.bool (af x),qS A ((lim (ab x)).length) c]) a (fun i w2 u a=>lL a ac (ag (kZ (aa a [.v (qP i 1),.o (qS A ((lim (ab x)).length) c) 0 1 1,.v (nV ((lim (ab x)).length))] ?_))))));have b:((((lim (ab x)).length:Nat):Int) == (0:Int))=true:=sO oM;have d:=eq_of_beq b;exact lB 7 b (lL a ac (am (aa a ac (ae a [] (iV 0) (by subst hz;rfl)))))
theorem vz (x:Int)(A:Z9)(c:Nat)(p:(lim (ab x)).length<=c)(i:(lim (ab x)).length<=2000000000)(hz:x<0)(w:World)(h:Hp)(g:G w h)(f:S3 A (lim (ab x)) h):CV 146 #[.agg #[.bool true,.slice A ((lim (ab x)).length) c]] w h (iV x.sign):=by
 have a:=((sS g).aS f);have j:=@bT (ab x);have l:ab x=x.natAbs:=rfl;refine go Tryz.func146 [(0,.agg #[qT,qS A ((lim (ab x)).length) c])] rfl (ax (lA 1 26 ([qT,qS A ((lim (ab x)).length) c]) a (fun d w2 u a=>lL a ac (ag (kZ (aa a [.v (qP d 1),.o (qS A ((lim (ab x)).length) c) 0 1 1,.v (nV ((lim (ab x)).length))] ?_))))));have b:((((lim (ab x)).length:Nat):Int) == (0:Int))=false:=eU oM;have e:=aj b;exact lB 7 b (lL a ac (ah (aa a [.v (pB d),.o qT 0 0 1,.c] (am (aa a ac (ae a [] (iV (-1)) (by rw[M1 hz])))))))
theorem vP (x:Int)(A:Z9)(c:Nat)(p:(lim (ab x)).length<=c)(i:(lim (ab x)).length<=2000000000)(hz:0<x)(w:World)(h:Hp)(g:G w h)(f:S3 A (lim (ab x)) h):CV 146 #[.agg #[.bool false,.slice A ((lim (ab x)).length) c]] w h (iV x.sign):=by
 have a:=((sS g).aS f);have j:=@bT (ab x);have l:ab x=x.natAbs:=rfl;refine go Tryz.func146 [(0,.agg #[qF,qS A ((lim (ab x)).length) c])] rfl (ax (lA 1 26 ([qF,qS A ((lim (ab x)).length) c]) a (fun d w2 u a=>lL a ac (ag (kZ (aa a [.v (qP d 1),.o (qS A ((lim (ab x)).length) c) 0 1 1,.v (nV ((lim (ab x)).length))] ?_))))));have b:((((lim (ab x)).length:Nat):Int) == (0:Int))=false:=eU oM;have e:=aj b;exact lB 7 b (lL a ac (ah (aa a [.v (pB d),.o qF 0 0 1,.c] (ah (cK (aa a ac (ae a [] (iV 1) (by rw[M3 hz]))))))))
theorem qM (x:Int)(A:Z9)(c:Nat)(d:(lim (ab x)).length<=c)(a:(lim (ab x)).length<=2000000000)(w:World)(h:Hp)(g:G w h)(b:S3 A (lim (ab x)) h):CV 146 #[.agg #[.bool (af x),.slice A (lim (ab x)).length c]] w h (iV x.sign):=by
 rcases M0 x 0 with hz|hz|hz
 ·have:=vz x A c d a hz w h g b
  rwa [<-show af x=true by simp[af,hz]] at this
 ·exact vO x A c d a hz w h g b
 ·have:=vP x A c d a hz w h g b
  rwa [<-show af x=false by simp[af];omega] at this
theorem CI (x:Int)(A:Z9)(c:Nat)(B:(lim (ab x)).length<=c)(I:(lim (ab x)).length<=2000000000)(y:Int)(D:Z9)(d:Nat)(l:(lim (ab y)).length<=d)(C:(lim (ab y)).length<=2000000000)(w:World)(h:Hp)(g:G w h)(H:S3 A (lim (ab x)) h)(j:S3 D (lim (ab y)) h):CR 180 #[.agg #[.bool (af x),.slice A ((lim (ab x)).length) c],.agg #[.bool (af y),.slice D ((lim (ab y)).length) d]] w h (fun v h1=>RI h1 v (x-y)):=by
 have a:=(((sS g).aS H).aS j);have z:(lim (ab (-y))).length=(lim (ab y)).length:=by unfold ab;rw[Np]
 refine go Tryz.func180 [(0,.agg #[.bool (af x),qS A ((lim (ab x)).length) c]),(1,.agg #[.bool (af y),qS D ((lim (ab y)).length) d])] rfl (ax (lA 2 26 ([.bool (af x),qS A ((lim (ab x)).length) c]) a (fun O w2 Q a=>lA 3 26 ([.bool (af y),qS D ((lim (ab y)).length) d]) a (fun S M K a=>lA 4 26 ([qF,sZ]) a (fun L U V a=>ag (cR 4 [] mixed a ao ?_))))));refine eO 0 5 [(2,0,2)] (.agg #[.bool (af x),qS A ((lim (ab x)).length) c]) a (eO 1 6 [(1,0,2)] (.agg #[.bool (af y),qS D ((lim (ab y)).length) d]) a (eC 2 7 a (fun _ _ a=>ux y D d l oM _ _ a.g a.f.1) ?_));rintro _ _ _ _ _ a ⟨p,o,rfl,J,F⟩;replace a:=a.aS F;refine eC 3 8 a (fun _ _ a=>uQ x A c B oM (-y) p o J oM _ _ a.g a.f.r.1 a.f.1) ?_;rintro _ _ _ _ _ a ⟨b,e,rfl,i,u⟩;replace a:=a.aS u;exact bU a (fun _ _ a=>tP 4 0 0 ([.bool (af (x+(-y))),qS b ((lim (ab (x+(-y)))).length) e]) a (fun _ a=>tN (kX (a.ret [(0,0,2)] (.agg #[.bool (af (x+(-y))),qS b ((lim (ab (x+(-y)))).length) e]) (by rw[Int.sub_eq_add_neg];exact ⟨_,_,rfl,i,a.f.1⟩)))))
theorem vS (x y:Int):(x-y).sign=eh x y:=by
 unfold eh
 rcases M0 x y with h|h|h
 ·rw[if_pos h,M1 oM]
 ·subst h;simp
 ·rw[if_neg oM,if_pos h,M3 oM]
theorem ED (x:Int)(A:Z9)(c:Nat)(B:(lim (ab x)).length<=c)(i:(lim (ab x)).length<=1999999999)(y:Int)(D:Z9)(d:Nat)(u:(lim (ab y)).length<=d)(e:(lim (ab y)).length<=1999999999)(w:World)(h:Hp)(g:G w h)(C:S3 A (lim (ab x)) h)(l:S3 D (lim (ab y)) h):CV 149 #[.agg #[.bool (af x),.slice A ((lim (ab x)).length) c],.agg #[.bool (af y),.slice D ((lim (ab y)).length) d]] w h (iV (eh x y)):=by
 have a:=(((sS g).aS C).aS l);have z:(lim (ab (x-y))).length<=2000000000:=gt (show ab (x-y)<=ab x+ab y by unfold ab;omega) (iG i e);refine go Tryz.func149 [(0,.agg #[.bool (af x),qS A ((lim (ab x)).length) c]),(1,.agg #[.bool (af y),qS D ((lim (ab y)).length) d])] rfl (ax (lA 2 26 ([.bool (af x),qS A ((lim (ab x)).length) c]) a (fun J w2 K a=>lA 3 26 ([.bool (af y),qS D ((lim (ab y)).length) d]) a (fun L I H a=>lL a ac (aG (lL a [.o (.agg #[.bool (af x),qS A ((lim (ab x)).length) c]) 1 0 2,.o (.agg #[.bool (af y),qS D ((lim (ab y)).length) d]) 0 0 2] (lC 7 a (CI x A c B oM y D d u oM _ _ a.g a.f.2.1 a.f.1) ?_)))))));rintro _ _ _ a ⟨p,j,rfl,b,F⟩;replace a:=a.aS F;exact aq 8 a (qM (x-y) p j b oM _ _ a.g a.f.1) (fun _ _ a=>lL a ac (ae a [] (iV (((x-y)).sign)) (by rw[vS])))
theorem BI (a:Nat)(A:Z9)(c:Nat)(o:(lim a).length<=c)(b:Nat)(D:Z9)(d:Nat)(j:(lim b).length<=d)(q:Nat)(l:q=MC a b)(f:(lim a).length<=3000000000)(e:(lim b).length<=3000000000)(w:World)(h:Hp)(g:G w h)(p:S3 A (lim a) h)(i:S3 D (lim b) h):CR 157 #[.slice A (lim a).length c,.slice D (lim b).length d] w h (fun v h1=>RN h1 v q):=by
 subst l;exact Cm a A c o b D d j f e w h g p i
theorem nz (n d:Int)(h:d≠0):(mkR n d).num=bB (af n != af d) (ab n/MC (ab n) (ab d))/\(mkR n d).den=ab d/MC (ab n) (ab d)/\0<MC (ab n) (ab d):=by
  have c:0<ab d:=by unfold ab;omega
  have hz:ab (if d<0 then -n else n)=ab n:=by unfold ab;split<;>omega
  obtain ⟨h1,f,i,l⟩:=iD (if d<0 then -n else n) (ab d) c;rw[hz] at h1 f i l
  refine ⟨?_,f,l⟩;have j:=pJ _ _ i;rw[hz] at j
  show (mkRat _ _).num=_
  rw[h1,<-j]
  by_cases hn:n=0
  . have hk:ab n/MC (ab n) (ab d)=0:=by rw[hn];exact Nat.zero_div _
    rw[hk]
    unfold bB
    simp
  . have e:decide ((if d<0 then -n else n).sign<0)=(af n != af d):=by
      unfold af
      rcases M0 n 0 with a|a|a
      . rcases M0 d 0 with b|b|b
        . rw[if_pos b,M3 oM];simp[a,b]
        . exact absurd b h
        . rw[if_neg oM,M1 a];simp[a,show ¬d<0 by omega]
      . exact absurd a hn
      . rcases M0 d 0 with b|b|b
        . rw[if_pos b,M1 oM];simp[show ¬n<0 by omega,b]
        . exact absurd b h
        . rw[if_neg oM,M3 a];simp[show ¬n<0 by omega,show ¬d<0 by omega]
    rw[e]
theorem Ae (x:Int)(A:Z9)(c:Nat)(O:(lim (ab x)).length<=c)(hLx:(lim (ab x)).length<=2000000000)(y:Int)(D:Z9)(d:Nat)(J:(lim (ab y)).length<=d)(H:(lim (ab y)).length<=2000000000)(B:y≠0)(w:World)(h:Hp)(g:G w h)(hA:S3 A (lim (ab x)) h)(U:S3 D (lim (ab y)) h):CR 121 #[.agg #[.bool (af x),.slice A ((lim (ab x)).length) c],.agg #[.bool (af y),.slice D ((lim (ab y)).length) d]] w h (fun v h1=>RQ h1 v (mkR x y)):=by
 have a:=(((sS g).aS hA).aS U);obtain ⟨l,j,i⟩:=nz x y B;obtain ⟨q,hq⟩:∃ q,q=MC (ab x) (ab y):=⟨_,rfl⟩;rw[<-hq] at l j i
 have X:(lim q).length<=2000000000:=gt (by rw[hq];exact Nl _ (by unfold ab;omega)) H;refine go Tryz.func121 [(0,.agg #[.bool (af x),qS A ((lim (ab x)).length) c]),(1,.agg #[.bool (af y),qS D ((lim (ab y)).length) d])] rfl (ax (lA 2 26 ([.bool (af x),qS A ((lim (ab x)).length) c]) a (fun C w2 h3 a=>lA 3 26 ([.bool (af y),qS D ((lim (ab y)).length) d]) a (fun F w5 h6 a=>lA 4 28 cA a (fun b7 w8 h9 a=>aG (lL a [.v (qP C 1),.o (qS A ((lim (ab x)).length) c) 2 1 1,.v (qP F 1),.o (qS D ((lim (ab y)).length) d) 1 1 1] (lC 14 a (BI (ab x) A c O (ab y) D d J q hq oM oM _ _ a.g a.f.2.1 a.f.1) ?_)))))));rintro _ _ _ a ⟨M,L,rfl,Q,zk⟩;replace a:=a.aS zk;refine lL a ac (aG (lL a [.v (qP C 1),.o (qS A ((lim (ab x)).length) c) 2 1 1,.c] (lC 19 a (oO (ab x) A c O q M L Q oM oM i _ _ a.g a.f.r.1 a.f.1) ?_)));rintro _ _ _ a ⟨_,b,rfl,⟨K,S,rfl,zl,zm⟩,-⟩;replace a:=a.aS zm;refine lL a [.c,.v (qS K ((lim ((ab x)/q)).length) S),.v b,.c,.c] (aG (lL a [.v (qP F 1),.o (qS D ((lim (ab y)).length) d) 1 1 1,.c] (lC 26 a (oO (ab y) D d J q M L Q oM oM i _ _ a.g a.f.r.1 a.f.2.1) ?_)));rintro _ _ _ a ⟨_,e,rfl,⟨p,u,rfl,Y,W⟩,-⟩;replace a:=a.aS W;refine lL a [.c,.v (qS p ((lim ((ab y)/q)).length) u),.v e,.c,.c] (aG (lL a [.v (pB C),.o (.bool (af x)) 2 0 1,.v (pB F),.o (.bool (af y)) 1 0 1,.v (.bool ((af x) != (af y))),.c] (lC 35 a (rI ((af x) != (af y)) ((ab x)/q) K S zl _ _ a.g a.f.2.1) ?_)));rintro _ _ _ a ⟨I,z,rfl,V,Z⟩;replace a:=a.aS Z;exact lL a [.c,.v (.agg #[.bool (af (bB ((af x) != (af y)) ((ab x)/q))),qS I ((lim (ab (bB ((af x) != (af y)) ((ab x)/q)))).length) z,qS p ((lim ((ab y)/q)).length) u])] (lP 0 0 ([.bool (af (bB ((af x) != (af y)) ((ab x)/q))),qS I ((lim (ab (bB ((af x) != (af y)) ((ab x)/q)))).length) z,qS p ((lim ((ab y)/q)).length) u]) a (fun _ a=>ae a [(0,0,3)] (.agg #[.bool (af (bB ((af x) != (af y)) ((ab x)/q))),qS I ((lim (ab (bB ((af x) != (af y)) ((ab x)/q)))).length) z,qS p ((lim ((ab y)/q)).length) u]) (by unfold RQ;rw[l,j];exact ⟨_,_,_,_,rfl,V,Y,a.f.1,a.f.2.1⟩)))
theorem iU (x:Int)(d:Nat):(lim (ab (x*((d:Nat):Int)))).length<=(lim (ab x)).length+(lim d).length:=by
 have:ab (x*((d:Nat):Int))=ab x*d:=MX x (d:Int);rw[this];exact gm
theorem vv (a:Rat)(e:Z9)(c1:Nat)(d:Z9)(c:Nat)(y:(lim (ab a.num)).length<=c1)(i:(lim a.den).length<=c)(B:(lim (ab a.num)).length<=300000000)(C:(lim a.den).length<=300000000)(w:World)(h:Hp)(g:G w h)(l:S3 e (lim (ab a.num)) h)(j:S3 d (lim a.den) h):CR 151 #[.agg #[.bool (af a.num),.slice e ((lim (ab a.num)).length) c1,.slice d ((lim (a.den)).length) c]] w h (fun v h1=>RI h1 v (a.den:Int)):=by
 have b:=(((sS g).aS l).aS j);refine go Tryz.func151 [(0,.agg #[.bool (af a.num),qS e ((lim (ab a.num)).length) c1,qS d ((lim (a.den)).length) c])] rfl (ax (lA 1 28 ([.bool (af a.num),qS e ((lim (ab a.num)).length) c1,qS d ((lim (a.den)).length) c]) b (fun z w2 I b=>lA 2 26 ([qF,sZ]) b (fun J H F b=>aG (lL b [.v (qP z 2),.o (qS d ((lim (a.den)).length) c) 1 2 1] (lC 5 b (rI false a.den d c i _ _ b.g b.f.1) ?_))))));rintro _ _ _ b ⟨x,u,rfl,p,D⟩;replace b:=b.aS D;exact lP 0 0 ([.bool (af (bB false a.den)),qS x ((lim (ab (bB false a.den))).length) u]) b (fun _ b=>ae b [(0,0,2)] (.agg #[.bool (af (bB false a.den)),qS x ((lim (ab (bB false a.den))).length) u]) (⟨_,_,rfl,p,b.f.1⟩))
theorem BV (a:Rat)(c:Z9)(c1:Nat)(e:Z9)(d:Nat)(i:(lim (ab a.num)).length<=c1)(p:(lim a.den).length<=d)(x:(lim (ab a.num)).length<=300000000)(y:(lim a.den).length<=300000000)(w:World)(h:Hp)(g:G w h)(l:S3 c (lim (ab a.num)) h)(j:S3 e (lim a.den) h):CV 115 #[.agg #[.bool (af a.num),.slice c ((lim (ab a.num)).length) c1,.slice e ((lim (a.den)).length) d]] w h (iV a.num.sign):=by
 have b:=(((sS g).aS l).aS j);exact go Tryz.func115 [(0,.agg #[.bool (af a.num),qS c ((lim (ab a.num)).length) c1,qS e ((lim (a.den)).length) d])] rfl (ax (lA 1 28 ([.bool (af a.num),qS c ((lim (ab a.num)).length) c1,qS e ((lim (a.den)).length) d]) b (fun u w2 C b=>lL b ac (aG (lL b [.v (pB u),.o (.agg #[.bool (af a.num),qS c ((lim (ab a.num)).length) c1]) 0 0 2] (aq 5 b (qM a.num c c1 i oM _ _ b.g b.f.2.1) (fun z B b=>lL b ac (ae b [] (iV ((a.num).sign)) rfl))))))))
theorem IM (a:Rat)(e:Z9)(c1:Nat)(l:Z9)(i:Nat)(p:(lim (ab a.num)).length<=c1)(y:(lim a.den).length<=i)(hn1:(lim (ab a.num)).length<=300000000)(hm1:(lim a.den).length<=300000000)(b:Rat)(d:Z9)(c2:Nat)(o:Z9)(j:Nat)(u:(lim (ab b.num)).length<=c2)(x:(lim b.den).length<=j)(hn2:(lim (ab b.num)).length<=300000000)(V:(lim b.den).length<=300000000)(w:World)(h:Hp)(g:G w h)(C:S3 e (lim (ab a.num)) h)(B:S3 l (lim a.den) h)(z:S3 d (lim (ab b.num)) h)(F:S3 o (lim b.den) h):CV 117 #[.agg #[.bool (af a.num),.slice e ((lim (ab a.num)).length) c1,.slice l ((lim (a.den)).length) i],.agg #[.bool (af b.num),.slice d ((lim (ab b.num)).length) c2,.slice o ((lim (b.den)).length) j]] w h (iV (cZ a b)):=by
 have c:=(((((sS g).aS C).aS B).aS z).aS F);have M:=iU a.num b.den;have W:=iU b.num a.den;refine go Tryz.func117 [(0,.agg #[.bool (af a.num),qS e ((lim (ab a.num)).length) c1,qS l ((lim (a.den)).length) i]),(1,.agg #[.bool (af b.num),qS d ((lim (ab b.num)).length) c2,qS o ((lim (b.den)).length) j])] rfl (ax (lA 2 28 ([.bool (af a.num),qS e ((lim (ab a.num)).length) c1,qS l ((lim (a.den)).length) i]) c (fun K w2 h3 c=>lA 3 28 ([.bool (af b.num),qS d ((lim (ab b.num)).length) c2,qS o ((lim (b.den)).length) j]) c (fun L w5 h6 c=>lL c ac (ag (cR 11 [] mixed c ao ?_))))));refine eV 0 5 (pB K) (eO 1 6 [(1,0,2)] (.agg #[.bool (af a.num),qS e ((lim (ab a.num)).length) c1]) c (eO 2 7 [(0,0,3)] (.agg #[.bool (af b.num),qS d ((lim (ab b.num)).length) c2,qS o ((lim (b.den)).length) j]) c (eV 5 10 (pB L) (eO 6 11 [(0,0,2)] (.agg #[.bool (af b.num),qS d ((lim (ab b.num)).length) c2]) c (eO 7 12 [(1,0,3)] (.agg #[.bool (af a.num),qS e ((lim (ab a.num)).length) c1,qS l ((lim (a.den)).length) i]) c (eC 3 8 c (fun _ _ c=>vv b d c2 o j u x oM oM _ _ c.g c.f.2.1 c.f.1) ?_))))));rintro _ _ _ _ _ c ⟨J,H,rfl,D,za⟩;replace c:=c.aS za;refine eC 4 9 c (fun _ _ c=>ii a.num e c1 p oM (b.den:Int) J H D (show (lim (b.den)).length<=2000000000 by omega) _ _ c.g c.f.q.1 c.f.1) ?_;rintro _ _ _ _ _ c ⟨O,zj,rfl,zb,zc⟩;replace c:=c.aS zc;refine eC 8 13 c (fun _ _ c=>vv a e c1 l i p y oM oM _ _ c.g c.f.q.2.1 c.f.q.1) ?_;rintro _ _ _ _ _ c ⟨Z,X,rfl,zd,I⟩;replace c:=c.aS I;refine eC 9 14 c (fun _ _ c=>ii b.num d c2 u oM (a.den:Int) Z X zd (show (lim (a.den)).length<=2000000000 by omega) _ _ c.g c.f.q.1 c.f.1) ?_;rintro _ _ _ _ _ c ⟨Y,S,rfl,U,Q⟩;replace c:=c.aS Q;exact au 10 15 c (fun _ _ c=>ED (a.num*(b.den:Int)) O zj zb oM (b.num*(a.den:Int)) Y S U oM _ _ c.g c.f.r.1 c.f.1) (fun _ _ c=>bU c (fun _ _ c=>tV 11 4 (iV (eh (a.num*(b.den:Int)) (b.num*(a.den:Int)))) (tN (kX (c.ret [] (iV (eh (a.num*(b.den:Int)) (b.num*(a.den:Int)))) rfl)))))
theorem BF (x y:Int){k:Nat}(b:(lim (ab x)).length<=k)(a:(lim (ab y)).length<=k):(lim (ab (x+y))).length<=k+1:=gt (show ab (x+y)<=ab x+ab y from Nm x y) (iG b a)
theorem ny (x y:Int):(lim (ab (x*y))).length<=(lim (ab x)).length+(lim (ab y)).length:=by
 have:ab (x*y)=ab x*ab y:=MX x y;rw[this];exact gm
theorem uL (z:Int)(n:Nat):mkR z (bB false n)=mkRat z n:=by
 have h1:bB false n=(n:Int):=rfl;rw[h1];unfold mkR;rw[if_neg oM];rfl
theorem Di (a b:Rat):mkR (a.num*((b.den:Nat):Int)+b.num*((a.den:Nat):Int)) (bB false (a.den*b.den))=a+b:=by
 rw[uL,Rat.add_def,Ns]
theorem CB (a b:Rat):mkR (a.num*b.num) (bB false (a.den*b.den))=a*b:=by
 rw[uL,Rat.mul_def,Ns]
theorem EW (a b:Rat):bB false (a.den*b.den)≠0:=by
 have h:=Nat.mul_pos a.den_pos b.den_pos
 show ((a.den*b.den:Nat):Int)≠0
 omega
theorem FQ (a:Rat)(d:Z9)(c1:Nat)(o:Z9)(j:Nat)(x:(lim (ab a.num)).length<=c1)(p:(lim a.den).length<=j)(hn1:(lim (ab a.num)).length<=300000000)(hm1:(lim a.den).length<=300000000)(b:Rat)(i:Z9)(c2:Nat)(e:Z9)(l:Nat)(u:(lim (ab b.num)).length<=c2)(y:(lim b.den).length<=l)(hn2:(lim (ab b.num)).length<=300000000)(U:(lim b.den).length<=300000000)(w:World)(h:Hp)(g:G w h)(D:S3 d (lim (ab a.num)) h)(z:S3 o (lim a.den) h)(C:S3 i (lim (ab b.num)) h)(B:S3 e (lim b.den) h):CR 144 #[.agg #[.bool (af a.num),.slice d ((lim (ab a.num)).length) c1,.slice o ((lim (a.den)).length) j],.agg #[.bool (af b.num),.slice i ((lim (ab b.num)).length) c2,.slice e ((lim (b.den)).length) l]] w h (fun v h1=>RQ h1 v (a+b)):=by
 have c:=(((((sS g).aS D).aS z).aS C).aS B);have hx1:=iU a.num b.den;have hx2:=iU b.num a.den;have M:=BF (a.num*(b.den:Int)) (b.num*(a.den:Int)) (k:=600000000) oM oM;have hdl:=@gm a.den b.den;refine go Tryz.func144 [(0,.agg #[.bool (af a.num),qS d ((lim (ab a.num)).length) c1,qS o ((lim (a.den)).length) j]),(1,.agg #[.bool (af b.num),qS i ((lim (ab b.num)).length) c2,qS e ((lim (b.den)).length) l])] rfl (ax (lA 2 28 ([.bool (af a.num),qS d ((lim (ab a.num)).length) c1,qS o ((lim (a.den)).length) j]) c (fun H w2 h3 c=>lA 3 28 ([.bool (af b.num),qS i ((lim (ab b.num)).length) c2,qS e ((lim (b.den)).length) l]) c (fun L w5 h6 c=>lA 4 28 cA c (fun b7 w8 h9 c=>ag (cR 18 [] mixed c ao ?_))))));refine eV 0 5 (pB H) (eO 1 6 [(2,0,2)] (.agg #[.bool (af a.num),qS d ((lim (ab a.num)).length) c1]) c (eO 2 7 [(1,0,3)] (.agg #[.bool (af b.num),qS i ((lim (ab b.num)).length) c2,qS e ((lim (b.den)).length) l]) c (eV 5 10 (pB L) (eO 6 11 [(1,0,2)] (.agg #[.bool (af b.num),qS i ((lim (ab b.num)).length) c2]) c (eO 7 12 [(2,0,3)] (.agg #[.bool (af a.num),qS d ((lim (ab a.num)).length) c1,qS o ((lim (a.den)).length) j]) c (eV 11 16 (qP H 2) (eO 12 17 [(2,2,1)] (qS o ((lim (a.den)).length) j) c (eV 13 18 (qP L 2) (eO 14 19 [(1,2,1)] (qS e ((lim (b.den)).length) l) c (eC 3 8 c (fun _ _ c=>vv b i c2 e l u y oM oM _ _ c.g c.f.2.1 c.f.1) ?_))))))))));rintro _ _ _ _ _ c ⟨V,zA,rfl,ze,zf⟩;replace c:=c.aS zf;refine eC 4 9 c (fun _ _ c=>ii a.num d c1 x oM (b.den:Int) V zA ze (show (lim (b.den)).length<=2000000000 by omega) _ _ c.g c.f.q.1 c.f.1) ?_;rintro _ _ _ _ _ c ⟨zB,zD,rfl,zg,O⟩;replace c:=c.aS O;refine eC 8 13 c (fun _ _ c=>vv a d c1 o j x p oM oM _ _ c.g c.f.q.2.1 c.f.q.1) ?_;rintro _ _ _ _ _ c ⟨zE,zG,rfl,zj,W⟩;replace c:=c.aS W;refine eC 9 14 c (fun _ _ c=>ii b.num i c2 u oM (a.den:Int) zE zG zj (show (lim (a.den)).length<=2000000000 by omega) _ _ c.g c.f.q.1 c.f.1) ?_;rintro _ _ _ _ _ c ⟨zH,zI,rfl,zl,zm⟩;replace c:=c.aS zm;refine eC 10 15 c (fun _ _ c=>uQ (a.num*(b.den:Int)) zB zD zg oM (b.num*(a.den:Int)) zH zI zl oM _ _ c.g c.f.r.1 c.f.1) ?_;rintro _ _ _ _ _ c ⟨zJ,zK,rfl,S,zo⟩;replace c:=c.aS zo;refine eC 15 20 c (fun _ _ c=>oC a.den o j p b.den e l y oM oM _ _ c.g c.f.q.r.2.1 c.f.q.2.1) ?_;rintro _ _ _ _ _ c ⟨zL,X,rfl,zp,zq⟩;replace c:=c.aS zq;refine eC 16 21 c (fun _ _ c=>rI false (a.den*b.den) zL X zp _ _ c.g c.f.1) ?_;rintro _ _ _ _ _ c ⟨Z,zP,rfl,Q,zs⟩;replace c:=c.aS zs;refine eC 17 22 c (fun _ _ c=>Ae ((a.num*(b.den:Int))+(b.num*(a.den:Int))) zJ zK S oM (bB false (a.den*b.den)) Z zP Q (show (lim ((a.den*b.den))).length<=2000000000 by omega) (EW a b) _ _ c.g c.f.r.1 c.f.1) ?_;rintro _ _ _ _ _ c ⟨J,K,I,F,rfl,zt,Y,zv,zw⟩;replace c:=c.aP zv zw;exact bU c (fun _ _ c=>tP 18 0 0 (gE (mkR ((a.num*(b.den:Int))+(b.num*(a.den:Int))) (bB false (a.den*b.den))) J K I F) c (fun _ c=>tN (kX (c.ret [(0,0,3)] (rG (mkR ((a.num*(b.den:Int))+(b.num*(a.den:Int))) (bB false (a.den*b.den))) J K I F) (by rw[<-Di a b];exact ⟨_,_,_,_,rfl,zt,Y,c.f.2.1,c.f.1⟩)))))
theorem GW (a:Rat)(l:Z9)(c1:Nat)(j:Z9)(e:Nat)(p:(lim (ab a.num)).length<=c1)(x:(lim a.den).length<=e)(hn1:(lim (ab a.num)).length<=300000000)(hm1:(lim a.den).length<=300000000)(b:Rat)(d:Z9)(c2:Nat)(o:Z9)(i:Nat)(D:(lim (ab b.num)).length<=c2)(u:(lim b.den).length<=i)(hn2:(lim (ab b.num)).length<=300000000)(hm2:(lim b.den).length<=300000000)(w:World)(h:Hp)(g:G w h)(B:S3 l (lim (ab a.num)) h)(z:S3 j (lim a.den) h)(y:S3 d (lim (ab b.num)) h)(C:S3 o (lim b.den) h):CR 145 #[.agg #[.bool (af a.num),.slice l ((lim (ab a.num)).length) c1,.slice j ((lim (a.den)).length) e],.agg #[.bool (af b.num),.slice d ((lim (ab b.num)).length) c2,.slice o ((lim (b.den)).length) i]] w h (fun v h1=>RQ h1 v (a*b)):=by
 have c:=(((((sS g).aS B).aS z).aS y).aS C);have U:=ny a.num b.num;have hdl:=@gm a.den b.den;refine go Tryz.func145 [(0,.agg #[.bool (af a.num),qS l ((lim (ab a.num)).length) c1,qS j ((lim (a.den)).length) e]),(1,.agg #[.bool (af b.num),qS d ((lim (ab b.num)).length) c2,qS o ((lim (b.den)).length) i])] rfl (ax (lA 2 28 ([.bool (af a.num),qS l ((lim (ab a.num)).length) c1,qS j ((lim (a.den)).length) e]) c (fun F w2 h3 c=>lA 3 28 ([.bool (af b.num),qS d ((lim (ab b.num)).length) c2,qS o ((lim (b.den)).length) i]) c (fun H w5 h6 c=>lA 4 28 cA c (fun b7 w8 h9 c=>ag (cR 12 [] mixed c ao ?_))))));refine eV 0 5 (pB F) (eO 1 6 [(2,0,2)] (.agg #[.bool (af a.num),qS l ((lim (ab a.num)).length) c1]) c (eV 2 7 (pB H) (eO 3 8 [(1,0,2)] (.agg #[.bool (af b.num),qS d ((lim (ab b.num)).length) c2]) c (eV 5 10 (qP F 2) (eO 6 11 [(2,2,1)] (qS j ((lim (a.den)).length) e) c (eV 7 12 (qP H 2) (eO 8 13 [(1,2,1)] (qS o ((lim (b.den)).length) i) c (eC 4 9 c (fun _ _ c=>ii a.num l c1 p oM b.num d c2 D oM _ _ c.g c.f.r.2.1 c.f.2.1) ?_))))))));rintro _ _ _ _ _ c ⟨Q,zq,rfl,M,zf⟩;replace c:=c.aS zf;refine eC 9 14 c (fun _ _ c=>oC a.den j e x b.den o i u oM oM _ _ c.g c.f.r.2.1 c.f.2.1) ?_;rintro _ _ _ _ _ c ⟨W,X,rfl,Y,V⟩;replace c:=c.aS V;refine eC 10 15 c (fun _ _ c=>rI false (a.den*b.den) W X Y _ _ c.g c.f.1) ?_;rintro _ _ _ _ _ c ⟨zt,O,rfl,zj,zk⟩;replace c:=c.aS zk;refine eC 11 16 c (fun _ _ c=>Ae (a.num*b.num) Q zq M oM (bB false (a.den*b.den)) zt O zj (show (lim ((a.den*b.den))).length<=2000000000 by omega) (EW a b) _ _ c.g c.f.r.1 c.f.1) ?_;rintro _ _ _ _ _ c ⟨K,L,J,I,rfl,zl,zm,Z,S⟩;replace c:=c.aP Z S;exact bU c (fun _ _ c=>tP 12 0 0 (gE (mkR (a.num*b.num) (bB false (a.den*b.den))) K L J I) c (fun _ c=>tN (kX (c.ret [(0,0,3)] (rG (mkR (a.num*b.num) (bB false (a.den*b.den))) K L J I) (by rw[<-CB a b];exact ⟨_,_,_,_,rfl,zl,zm,c.f.2.1,c.f.1⟩)))))
theorem GA (n d:Int)(b:d≠0):mkR n d=(n:Rat)/(d:Rat):=by
 unfold mkR
 have c:(d:Rat)≠0:=by simpa using b
 rcases M0 d 0 with h|h|h
 ·rw[if_pos h,Nt]
  have e:((ab d:Nat):Rat) = -(d:Rat):=by
   have:((ab d:Nat):Int) = -d:=by unfold ab;omega
   have a:(((ab d:Nat):Int):Rat)=((-d:Int):Rat):=by rw[this]
   rw[Nu,Rat.intCast_neg] at a;exact a
  rw[e];simp;grind
 ·exact absurd h b
 ·rw[if_neg oM,Nt]
  have e:((ab d:Nat):Rat)=(d:Rat):=by
   have:((ab d:Nat):Int)=d:=by unfold ab;omega
   have a:(((ab d:Nat):Int):Rat)=((d:Int):Rat):=by rw[this]
   rw[Nu] at a;exact a
  rw[e]
theorem Cn (a b:Rat)(d:b.num≠0):mkR (a.num*((b.den:Nat):Int)) (((a.den:Nat):Int)*b.num)=a/b:=by
 have ha:=a.den_pos;have e:=b.den_pos;have c:((a.den:Nat):Int)*b.num≠0:=Nv oM d;rw[GA _ _ c];have e1:a=(a.num:Rat)/(a.den:Rat):=by rw[<-Nt,Nx]
 have e2:b=(b.num:Rat)/(b.den:Rat):=by rw[<-Nt,Nx]
 have h1:((a.den:Nat):Rat)≠0:=by simp;omega
 have h:((b.den:Nat):Rat)≠0:=by simp;omega
 have i:((b.num:Int):Rat)≠0:=by simpa using d
 have f:a/b=((a.num:Rat)/(a.den:Rat))/((b.num:Rat)/(b.den:Rat)):=by rw[<-e1,<-e2]
 rw[f]
 simp only[Rat.intCast_mul,Nu]
 generalize (a.num:Rat)=x at *
 generalize (b.num:Rat)=y at *
 generalize ((a.den:Nat):Rat)=z at *
 generalize ((b.den:Nat):Rat)=t at *
 grind
theorem wh {z:Int}(h0 : -9223372036854775808<=z)(h1:z<9223372036854775808):(lim (ab z)).length<=2:=ej (by unfold ab;omega)
theorem oH (z:Int)(h0 : -9223372036854775808<=z)(h1:z<9223372036854775808)(w:World)(h:Hp)(g:G w h):CR 18 #[iV z] w h (fun v h1=>RQ h1 v (z:Rat)):=by
 have a:=sS g;refine go Tryz.func18 [(0,iV z)] rfl (ax (lA 2 28 cA a (fun p w2 u a=>aG (lL a ac (lC 4 a (sN z oM oM _ _ a.g) ?_)))));rintro _ x y a ⟨b,e,rfl,c,d⟩;replace a:=a.aS d;refine lC 5 a (oo 1 oM _ _ a.g) ?_;rintro _ _ _ a ⟨i,j,rfl,o,l⟩;replace a:=a.aS l;exact lL a [.v (.agg #[.bool (af z),qS b ((lim (ab z)).length) e,qS i ((lim 1).length) j])] (lP 0 0 ([.bool (af z),qS b ((lim (ab z)).length) e,qS i ((lim 1).length) j]) a (fun _ a=>ae a [(0,0,3)] (.agg #[.bool (af z),qS b ((lim (ab z)).length) e,qS i ((lim 1).length) j]) (by unfold RQ;rw[Nh,Ni];exact ⟨_,_,_,_,rfl,c,o,a.f.2.1,a.f.1⟩)))
theorem J4 (a:Rat)(e:Z9)(c1:Nat)(l:Z9)(i:Nat)(p:(lim (ab a.num)).length<=c1)(z:(lim a.den).length<=i)(hn1:(lim (ab a.num)).length<=300000000)(hm1:(lim a.den).length<=300000000)(b:Rat)(d:Z9)(c2:Nat)(o:Z9)(j:Nat)(x:(lim (ab b.num)).length<=c2)(y:(lim b.den).length<=j)(hn2:(lim (ab b.num)).length<=300000000)(hm2:(lim b.den).length<=300000000)(u:b.num≠0)(w:World)(h:Hp)(g:G w h)(D:S3 e (lim (ab a.num)) h)(C:S3 l (lim a.den) h)(B:S3 d (lim (ab b.num)) h)(F:S3 o (lim b.den) h):CR 148 #[.agg #[.bool (af a.num),.slice e ((lim (ab a.num)).length) c1,.slice l ((lim (a.den)).length) i],.agg #[.bool (af b.num),.slice d ((lim (ab b.num)).length) c2,.slice o ((lim (b.den)).length) j]] w h (fun v h1=>RQ h1 v (a/b)):=by
 have c:=(((((sS g).aS D).aS C).aS B).aS F);have W:=iU a.num b.den;have hx2:(lim (ab ((a.den:Int)*b.num))).length<=600000000:=ep (ny (a.den:Int) b.num) (by show (lim a.den).length+_<=_;omega);refine go Tryz.func148 [(0,.agg #[.bool (af a.num),qS e ((lim (ab a.num)).length) c1,qS l ((lim (a.den)).length) i]),(1,.agg #[.bool (af b.num),qS d ((lim (ab b.num)).length) c2,qS o ((lim (b.den)).length) j])] rfl (ax (lA 2 28 ([.bool (af a.num),qS e ((lim (ab a.num)).length) c1,qS l ((lim (a.den)).length) i]) c (fun O w2 h3 c=>lA 3 28 ([.bool (af b.num),qS d ((lim (ab b.num)).length) c2,qS o ((lim (b.den)).length) j]) c (fun V w5 h6 c=>lA 4 28 cA c (fun b7 w8 h9 c=>ag (cR 11 [] mixed c ao ?_))))));refine eV 0 5 (pB O) (eO 1 6 [(2,0,2)] (.agg #[.bool (af a.num),qS e ((lim (ab a.num)).length) c1]) c (eO 2 7 [(1,0,3)] (.agg #[.bool (af b.num),qS d ((lim (ab b.num)).length) c2,qS o ((lim (b.den)).length) j]) c (eO 5 10 [(2,0,3)] (.agg #[.bool (af a.num),qS e ((lim (ab a.num)).length) c1,qS l ((lim (a.den)).length) i]) c (eV 7 12 (pB V) (eO 8 13 [(1,0,2)] (.agg #[.bool (af b.num),qS d ((lim (ab b.num)).length) c2]) c (eC 3 8 c (fun _ _ c=>vv b d c2 o j x y oM oM _ _ c.g c.f.2.1 c.f.1) ?_))))));rintro _ _ _ _ _ c ⟨Y,Z,rfl,L,zf⟩;replace c:=c.aS zf;refine eC 4 9 c (fun _ _ c=>ii a.num e c1 p oM (b.den:Int) Y Z L (show (lim (b.den)).length<=2000000000 by omega) _ _ c.g c.f.q.1 c.f.1) ?_;rintro _ _ _ _ _ c ⟨zt,M,rfl,zg,X⟩;replace c:=c.aS X;refine eC 6 11 c (fun _ _ c=>vv a e c1 l i p z oM oM _ _ c.g c.f.q.2.1 c.f.q.1) ?_;rintro _ _ _ _ _ c ⟨Q,zw,rfl,zj,zk⟩;replace c:=c.aS zk;refine eC 9 14 c (fun _ _ c=>ii (a.den:Int) Q zw zj (show (lim (a.den)).length<=2000000000 by omega) b.num d c2 x oM _ _ c.g c.f.1 c.f.q.1) ?_;rintro _ _ _ _ _ c ⟨zx,zA,rfl,zl,zm⟩;replace c:=c.aS zm;refine eC 10 15 c (fun _ _ c=>Ae (a.num*(b.den:Int)) zt M zg oM ((a.den:Int)*b.num) zx zA zl oM (Nv (by have:=a.den_pos;omega) u) _ _ c.g c.f.r.1 c.f.1) ?_;rintro _ _ _ _ _ c ⟨J,K,I,H,rfl,zn,U,S,zq⟩;replace c:=c.aP S zq;exact bU c (fun _ _ c=>tP 11 0 0 (gE (mkR (a.num*(b.den:Int)) ((a.den:Int)*b.num)) J K I H) c (fun _ c=>tN (kX (c.ret [(0,0,3)] (rG (mkR (a.num*(b.den:Int)) ((a.den:Int)*b.num)) J K I H) (by rw[<-Cn a b u];exact ⟨_,_,_,_,rfl,zn,U,c.f.2.1,c.f.1⟩)))))
theorem Fu {P:Program}{Γ:cl}{o:Oper}{t u:TypeId}{x y:Operand}{k ky:IntKind}{a n:Nat}(d:o.op=.binOp .shr t x y u)(c:ev Γ x=.int k (a:Int))(b:ev Γ y=.int ky (n:Int))(hn:n<=k.bits)(w:World) :
  (execOp (ev Γ) o).run P w=.ok (.value (.int k ((a/2^n:Nat):Int))) w:=by
 have:=IV (P:=P) d c b hn w;rw[show ((a:Int)/2^n)=((a/2^n:Nat):Int) by simp] at this
 exact this
theorem xd {P:Program}{Γ:cl}{o:Oper}{t u:TypeId}{x y:Operand}{ky:IntKind}{a n:Nat}(d:o.op=.binOp .shl t x y u)(c:ev Γ x=.int .u32 (a:Int))(b:ev Γ y=.int ky (n:Int))(hn:n<=32)(hf:a*2^n<4294967296)(w:World) :
  (execOp (ev Γ) o).run P w=.ok (.value (.int .u32 ((a*2^n:Nat):Int))) w:=by
 have:=Jm (P:=P) d c b hn w;rw[show ((a:Int)*2^n)=((a*2^n:Nat):Int) by simp,Ik hf] at this
 exact this
theorem vA (a:Nat)(A:Z9)(c:Nat)(V:(lim a).length<=c)(I:(lim a).length<=4000000000)(w:World)(h:Hp)(g:G w h)(Y:S3 A (lim a) h):CR 104 #[.slice A ((lim a).length) c] w h (fun v h1=>∃ A,v=.slice A ((nb a+7)/8) ((nb a+7)/8)/\SlO 1 ne 0 h1 A (fy a ((nb a+7)/8))):=by
 have e:=((sS g).aS Y);have X:=td a;refine go Tryz.func104 [(0,qS A ((lim a).length) c)] rfl (aa e ac (aG (lL e ac (aq 7 e (rD a A c V I _ _ e.g e.f.1) (fun w1 h2 e=>bp 8 ((nb a:Nat)+7) ((nb a)+7) (lV 9 (nV (((nb a)+7)/8)) ?_ (hr:=aK (dB (t:=3) (u:=3) (x:=.tmp 8) (y:=.const (iV 8)) (k:=.i64) (a:=(((nb a)+7:Nat):Int)) (b:=(8:Int)) kR kR kR oM _) (dG ((nb a)+7) 8 oM))))))));refine lL e ac (aG (lL e ac (lK 11 5 (((nb a)+7)/8:Nat) 1 1 (.int .u8 0) ne 0 e (fun p w4 Q e=>?_))));have H:(zY (((nb a)+7)/8:Nat) 0).length=(((nb a)+7)/8:Nat):=by simp
 refine lL e ac (ag (aa e ac (aZ ?_)));refine bH _ (CG.loop (fun D Γ O=>∃ (i:Nat)(l:List Nat)(h_:Hp),D=((nb a+7)/8)-i/\Γ=[(0,qS A ((lim a).length) c),(2,sZ),(3,nV (((nb a)+7)/8)),(4,qS (sB p) (((nb a)+7)/8:Nat) (((nb a)+7)/8:Nat)),(5,nV i)]/\SS w h O h_ [⟨p,5,(l).flatMap ne⟩] [] [S3 A (lim a)]/\i<=((nb a+7)/8)/\l.length=((nb a+7)/8)/\(∀ j,j<i->l.getD (((nb a+7)/8)-1-j) 0=a/256^j%256)) _ ⟨0,zY (((nb a)+7)/8:Nat) 0,Q,rfl,rfl,e.to _ _,My _,H,(fun j L=>absurd L oM)⟩ ?_);rintro _ _ w7 ⟨i,l,W,S,rfl,e,hi,z,J⟩;have Z:=(Ld.lim a).get (i/4);refine cQ (aa e aD ?_);cases C:(decide ((i:Int)<((((nb a)+7)/8:Nat):Int)))
 .
  have zb:=oF C;refine lB 14 C (ah (CG.exit ?_))
  show CG _ _ _ _ _ _ _ _
  refine aa e aD (lN (kX ?_));have U:i=((nb a+7)/8):=by omega
  have F:l=fy a ((nb a+7)/8):=tc z (fun j L=>J j oM);rw[F] at e
  obtain ⟨_,e,B,K,M⟩:=e.pub 0;replace e:=(e.to [] []).aS (SlO.of_flat (sz:=1) (f:=ne) (d:=0) (b:=p) (o:=0) (l:=fy a ((nb a+7)/8)) (fun _=>rfl) B);exact e.ret [] (qS (sB p) (((nb a)+7)/8:Nat) (((nb a)+7)/8:Nat)) (⟨sB p,rfl,e.f.1⟩)
 have zb:=oT C;refine lB 14 C (am (cK (cQ (kZ (kQ (lL e aD (bp 19 ((((nb a)+7)/8:Nat)-1) ((((nb a)+7)/8:Nat)-1) ?_)))))));refine lL e ac (bp 21 (((((nb a)+7)/8:Nat)-1:Nat)-(i:Nat)) (((((nb a)+7)/8:Nat)-1:Nat)-i) ?_);refine lL e aD (lV 24 (nV (i/4)) ?_ (hr:=aK (dB (t:=3) (u:=3) (x:=.tmp 23) (y:=.const (iV 4)) (k:=.i64) (a:=(i:Int)) (b:=(4:Int)) kR kR kR oM _) (dG i 4 oM)));refine lX 25 A ((lim a).length) c 1 (i/4:Nat) (i/4) ((e.f.1).ok oM) (lH 26 (mW ((lim a).getD (i/4) 0)) e ((e.f.1).el (i/4) oM) (lL e ac (lV 28 (nV (i%4)) ?_ (hr:=aK (fj (t:=3) (u:=3) (x:=.tmp 27) (y:=.const (iV 4)) (k:=.i64) (a:=(i:Int)) (b:=(4:Int)) kR kR kR oM _) (dq i 4)))));refine bp 29 (8*(i%4:Nat)) (8*(i%4)) (lV 30 (mV (8*(i%4))) ?_ (hr:=rU (((8*(i%4):Nat):Int)) kR (bc oM oM)));refine lV 31 (mW ((lim a).getD (i/4) 0/2^(8*(i%4)))) ?_ (hr:=Fu (t:=141) (u:=155) (x:=.tmp 26) (y:=.tmp 30) (k:=.u32) (ky:=.u64) (a:=(lim a).getD (i/4) 0) (n:=8*(i%4)) kR kR kR (show 8*(i%4)<=32 by omega) _);refine lV 32 (.int .u8 ((lim a).getD (i/4) 0/2^(8*(i%4))%256:Nat)) ?_ (hr:=aK (n:=IntKind.wrap .u8 (((lim a).getD (i/4) 0/2^(8*(i%4)):Nat):Int)) kR (C9 _));refine lX 33 (sB p) (((nb a)+7)/8:Nat) (((nb a)+7)/8:Nat) 1 (((((nb a)+7)/8:Nat)-1:Nat)-i:Nat) (((((nb a)+7)/8:Nat)-1:Nat)-i:Nat) rfl (lW 0 l ne 1 (((((nb a)+7)/8:Nat)-1:Nat)-i:Nat) ((lim a).getD (i/4) 0/2^(8*(i%4))%256:Nat) e oM (fun _ e=>?_));have zc:((l).set (((((nb a)+7)/8:Nat)-1:Nat)-i:Nat) ((lim a).getD (i/4) 0/2^(8*(i%4))%256:Nat)).length=(((nb a)+7)/8:Nat):=by rw[Mg];exact z
 replace e:=e.to [⟨p,5,((l).set (((((nb a)+7)/8:Nat)-1:Nat)-i:Nat) ((lim a).getD (i/4) 0/2^(8*(i%4))%256:Nat)).flatMap ne⟩] [];refine lN (kQ (lL e ac (bp 16 ((i:Nat)+1) (i+1) ?_)));refine lL e ac (lD ?_);intro a_ ka;refine ⟨_,_,?_,⟨i+1,(l).set (((((nb a)+7)/8:Nat)-1:Nat)-i:Nat) ((lim a).getD (i/4) 0/2^(8*(i%4))%256:Nat),W,rfl,rfl,e.to _ _,oM,zc,(hC z oM J (Ac a i))⟩,ka.to _ kR⟩
 omega
theorem vY {n m:Nat}(h:n<256^m):∀ j,j<(m+3)/4->(zY ((m+3)/4) 0).getD j 0=fI n (m-0) j:=fun j a=>by
 rw[Nat.sub_zero,xy h];simp[a]
theorem vu {l:List Nat}{n m i x:Nat}(hi:i<m)(c:l.length=(m+3)/4)(hv:∀ j,j<(m+3)/4->l.getD j 0=fI n (m-i) j)(b:x=fI n (m-1-i) ((m-1-i)/4)) :
  ∀ j,j<(m+3)/4->(l.set ((m-1-i)/4) x).getD j 0=fI n (m-(i+1)) j:=by
 intro j a;rw[show m-(i+1)=m-1-i by omega]
 by_cases e:j=(m-1-i)/4
 ·subst e
  have:(m-1-i)/4<l.length:=by omega
  simp[this,b]
 ·rw[nS,if_neg e,show m-1-i+1=m-i by omega,<-hv j a]
  simp only[LM]
  rw[tz (Ne.symm e)]
theorem tJ {n k:Nat}:fI n (k+1) (k/4) ||| (n/256^k%256)*2^(8*(k%4))=fI n k (k/4):=by rw[nS n k (k/4),if_pos rfl]
theorem nL {b k:Nat}(a:b<256):b*2^(8*(k%4))<4294967296:=by
 have:k%4=0\/k%4=1\/k%4=2\/k%4=3:=by omega
 rcases this with e|e|e|e<;>rw[e]<;>omega
theorem Bq {l:List Nat}{n m:Nat}(hn:n<256^m)(c:l.length=(m+3)/4)(hv:∀ j,j<(m+3)/4->l.getD j 0=fI n (m-m) j):ai 4294967296 l=n/\Ld l:=by
 constructor
 ·rw[<-kw]
  refine iT l n (fun j a=>by rw[hv j oM,Nat.sub_self,vJ]) ?_;refine Nat.lt_of_lt_of_le hn ?_;rw[c,show (256:Nat)=2^8 by rfl,show (4294967296:Nat)=2^32 by rfl,<-Nat.pow_mul,<-Nat.pow_mul];exact Nat.pow_le_pow_right oM oM
 ·intro x b
  obtain ⟨j,a,rfl⟩:=List.mem_iff_getElem.1 b;have:=hv j oM;have e:l[j]=l.getD j 0:=by simp[a]
  rw[e,this];exact oG _ _ _
theorem xQ (n m:Nat)(A:Z9)(p:Nat)(hc:m<=p)(hm:m<=1099511627776)(hn:n<256^m)(w:World)(h:Hp)(g:G w h)(Y:SlO 1 ne 0 h A (fy n m)):CR 122 #[.slice A m p] w h (fun v h1=>RN h1 v n):=by
 have e:=((sS g).aS Y);have Z:=jX n m;refine go Tryz.func122 [(0,qS A m p)] rfl (aa e ac (aG (lL e [.c,.v (nV m)] (bp 8 ((m:Nat)+3) (m+3) ?_))));refine lV 9 (nV ((m+3)/4)) ?_ (hr:=aK (dB (t:=3) (u:=3) (x:=.tmp 8) (y:=.const (iV 4)) (k:=.i64) (a:=((m+3:Nat):Int)) (b:=(4:Int)) kR kR kR oM _) (dG (m+3) 4 oM));refine lK 10 141 ((m+3)/4) 1 4 (uW 0) az 0 e (fun C w2 X e=>?_);have L:(zY ((m+3)/4) 0).length=((m+3)/4):=by simp
 refine lL e ac (ag (aa e ac (aZ ?_)));refine bH _ (CG.loop (fun O Γ W=>∃ (i:Nat)(l:List Nat)(S:Hp),O=m-i/\Γ=[(0,qS A m p),(2,sZ),(3,qS (sB C) ((m+3)/4) ((m+3)/4)),(4,nV i)]/\SS w h W S [⟨C,141,(l).flatMap az⟩] [] [fun S=>SlO 1 ne 0 S A (fy n m)]/\i<=m/\l.length=(m+3)/4/\(∀ j,j<(m+3)/4->l.getD j 0=fI n (m-i) j)) _ ⟨0,zY ((m+3)/4) 0,X,rfl,rfl,e.to _ _,My _,L,(vY hn)⟩ ?_);rintro _ _ w5 ⟨i,l,h6,hm7,rfl,e,hi,z,hv⟩;refine cQ (aa e [.c,.c,.v (nV m)] ?_);cases D:(decide ((i:Int)<(m:Int)))
 .
  have H:=oF D;refine lB 14 D (ah (CG.exit ?_))
  show CG _ _ _ _ _ _ _ _
  refine aa e ac ?_;have Q:i=m:=by omega
  rw[Q] at hv
  obtain ⟨K,M⟩:=Bq hn z hv;obtain ⟨h9,e,F,U,V⟩:=e.pub 0;replace e:=(e.to [] []).aS (SlO.of_flat (sz:=1) (f:=az) (d:=0) (b:=C) (o:=0) (l:=l) (fun _=>rfl) F);exact aq 43 e (jh (sB C) ((m+3)/4) l ((m+3)/4) z oM oM _ _ e.g e.f.1) (fun _ _ e=>lL e ac (ae e [] (qS (sB C) (tl l ((m+3)/4)) ((m+3)/4)) (RN.trim M K z oM e.f.1)))
 have H:=oT D;refine lB 14 D (am (cK (cQ (kZ (aa e [.c,.v (nV m)] (bp 19 ((m:Nat)-1) (m-1) ?_))))));refine lL e ac (bp 21 ((m-1:Nat)-(i:Nat)) ((m-1)-i) ?_);refine lL e ac (lN (cR 19 [] mixed e ao ?_));refine eV 0 22 (qS (sB C) ((m+3)/4) ((m+3)/4)) (eV 1 23 (nV ((m-1)-i)) (eV 2 24 (nV (((m-1)-i)/4)) ?_ (hv:=fun _=>aK (dB (t:=3) (u:=3) (x:=.tmp 23) (y:=.const (iV 4)) (k:=.i64) (a:=(((m-1)-i:Nat):Int)) (b:=(4:Int)) kR kR kR oM _) (dG ((m-1)-i) 4 oM))));refine eV 3 25 (qS (sB C) ((m+3)/4) ((m+3)/4)) (eV 4 26 (nV ((m-1)-i)) (eV 5 27 (nV (((m-1)-i)/4)) ?_ (hv:=fun _=>aK (dB (t:=3) (u:=3) (x:=.tmp 26) (y:=.const (iV 4)) (k:=.i64) (a:=(((m-1)-i:Nat):Int)) (b:=(4:Int)) kR kR kR oM _) (dG ((m-1)-i) 4 oM))));refine eX 6 28 (sB C) ((m+3)/4) ((m+3)/4) 1 (((m-1)-i)/4:Nat) (((m-1)-i)/4:Nat) rfl (eQ 7 29 0 l az 1 0 (((m-1)-i)/4:Nat) (mW ((l).getD (((m-1)-i)/4:Nat) 0)) e oM (eV 8 30 (qS A m p) (eV 9 31 (nV i) (eX 10 32 A m p 1 (i:Nat) i ((e.f.1).ok oM) ?_))));have B:=hv ((m-1-i)/4) oM;have J:l.getD ((m-1-i)/4) 0 ||| (n/256^(m-1-i)%256)*2^(8*((m-1-i)%4))=fI n (m-1-i) ((m-1-i)/4):=by rw[B,show m-i=m-1-i+1 by omega];exact tJ
 have I:l.getD ((m-1-i)/4) 0<4294967296:=by rw[B];exact oG _ _ _
 have B:=hv ((m-1-i)/4) oM;have J:l.getD ((m-1-i)/4) 0 ||| (n/256^(m-1-i)%256)*2^(8*((m-1-i)%4))=fI n (m-1-i) ((m-1-i)/4):=by rw[B,show m-i=m-1-i+1 by omega];exact tJ
 have I:l.getD ((m-1-i)/4) 0<4294967296:=by rw[B];exact oG _ _ _
 refine wk 11 33 (.int .u8 ((fy n m).getD i 0:Nat)) e ((e.f.1).el i oM) (by rw[jc n m _ oM]) (eV 12 34 (mW (n/256^(m-1-i)%256)) ?_ (hv:=fun _=>rT (((n/256^(m-1-i)%256:Nat):Int)) kR (oU oM oM)));refine eV 13 35 (nV ((m-1)-i)) (eV 14 36 (nV (((m-1)-i)%4)) ?_ (hv:=fun _=>aK (fj (t:=3) (u:=3) (x:=.tmp 35) (y:=.const (iV 4)) (k:=.i64) (a:=(((m-1)-i:Nat):Int)) (b:=(4:Int)) kR kR kR oM _) (dq ((m-1)-i) 4)));refine jG 15 37 (8*(((m-1)-i)%4:Nat)) (8*(((m-1)-i)%4:Nat)) (eV 16 38 (mV (8*(((m-1)-i)%4:Nat))) ?_ (hv:=fun _=>rU (((8*(((m-1)-i)%4:Nat):Nat):Int)) kR (bc oM oM)));refine eV 17 39 (mW ((n/256^(m-1-i)%256)*2^(8*((m-1-i)%4)))) ?_ (hv:=fun _=>xd (t:=141) (u:=155) (x:=.tmp 34) (y:=.tmp 38) (ky:=.u64) (a:=n/256^(m-1-i)%256) (n:=8*((m-1-i)%4)) kR kR kR oM (nL oM) _);refine eV 18 40 (mW (fI n (m-1-i) ((m-1-i)/4))) ?_ (hv:=fun _=>aK (Gm (t:=141) (u:=141) (x:=.tmp 29) (y:=.tmp 39) (a:=l.getD ((m-1-i)/4) 0) (b:=(n/256^(m-1-i)%256)*2^(8*((m-1-i)%4))) kR kR kR I (nL oM) _) (congrArg Int.ofNat J));refine bU e (fun _ zb e=>tX 19 41 (sB C) ((m+3)/4) ((m+3)/4) 1 (((m-1)-i)/4:Nat) (((m-1)-i)/4:Nat) rfl (tW 20 0 l az 1 (((m-1)-i)/4:Nat) (fI n (m-1-i) ((m-1-i)/4):Nat) e oM (fun _ e=>?_)));have za:((l).set (((m-1)-i)/4:Nat) (fI n (m-1-i) ((m-1-i)/4):Nat)).length=((m+3)/4):=by rw[Mg];exact z
 replace e:=e.to [⟨C,141,((l).set (((m-1)-i)/4:Nat) (fI n (m-1-i) ((m-1-i)/4):Nat)).flatMap az⟩] [];refine tN (kQ (lL e ac (bp 16 ((i:Nat)+1) (i+1) ?_)));refine lL e ac (lD ?_);intro a_ ka;refine ⟨_,_,?_,⟨i+1,(l).set (((m-1)-i)/4:Nat) (fI n (m-1-i) ((m-1-i)/4):Nat),zb,rfl,rfl,e.to _ _,oM,za,(vu oM z hv rfl)⟩,ka.to _ kR⟩
 omega
def cH (q:Rat):Rat:=if q.num<0 then -q else q
theorem pE (q:Rat):(cH q).num=((ab q.num:Nat):Int):=by
 unfold cH ab;split
 ·rw[Nj];omega
 ·omega
theorem xD (q:Rat):(cH q).den=q.den:=by
 unfold cH;split
 ·rw[Nk]
 ·rfl
theorem LQ.ln {q:Rat}(h:LQ 100000000 q):(lim (ab q.num)).length<=300000000:=ep (uB _) (by have:=h.1;omega)
theorem LQ.ld {q:Rat}(h:LQ 100000000 q):(lim q.den).length<=300000000:=ep (uB _) (by have:=h.2;omega)
theorem nl {k:Nat}{q:Rat}(h:LQ k q)(hk:k<=100000000:=by omega):(lim (ab q.num)).length<=300000000:=LQ.ln (h.mono hk)
theorem nD {k:Nat}{q:Rat}(h:LQ k q)(hk:k<=100000000:=by omega):(lim q.den).length<=300000000:=LQ.ld (h.mono hk)
theorem LQ.abs {k:Nat}{q:Rat}(h:LQ k q):LQ k (cH q):=⟨by rw[pE];exact h.1,by rw[xD];exact h.2⟩
theorem LQ.sub {k l:Nat}{a b:Rat}(ha:LQ k a)(c:LQ l b):LQ (k+l+1) (a-b):=by rw[Ny];exact ha.add c.neg
theorem LQ.inv {k:Nat}{q:Rat}(h:LQ k q):LQ k q⁻¹:=by
 by_cases hz:q.num=0
 ·have:q=0:=by rw[<-Nz];exact hz
  subst this;rw[Rat.inv_zero];exact h
 ·obtain ⟨h1,a⟩:=uG q hz
  exact ⟨by rw[h1,ft];exact h.2,by rw[a];exact h.1⟩
theorem LQ.div {k l:Nat}{a b:Rat}(ha:LQ k a)(c:LQ l b):LQ (k+l) (a/b):=by rw[Rat.div_def];exact ha.mul c.inv
theorem LQ.int {z:Int}(h0 : -9223372036854775808<=z)(h1:z<=9223372036854775807):LQ 1 (z:Rat):=⟨by rw[Nh];exact eE.2 (by unfold ab;omega),by rw[Ni];exact eE.2 oM⟩
theorem LQ.lit {z:Int}(h : -9223372036854775808<=z/\z<=9223372036854775807):LQ 1 (z:Rat):=LQ.int h.1 h.2
def bW (a b:List Rat):Nat->Rat
  | 0=>0
  | k+1=>bW a b k+a.getD k 0*b.getD k 0
theorem LQ.dot {a b:List Rat}{k l n:Nat}(ha:∀ i,i<n->LQ k (a.getD i 0))(c:∀ i,i<n->LQ l (b.getD i 0)):∀ i,i<=n->LQ (i*(k+l+1)+1) (bW a b i)
  | 0,_=>by rw[Nat.zero_mul];exact LQ.lit (z:=0) kD
  | i+1,h=>by
    have h1:=(LQ.dot ha c i oM).add ((ha i oM).mul (c i oM));refine LQ.mono h1 ?_;rw[Nat.succ_mul];omega
theorem Jn {h:Hp}{v:Value}{a:Rat}(hv:RP h v (-a.num) a.den):RQ h v (-a):=by unfold RQ;rw[Nj,Nk];exact hv
theorem J3 (a:Rat)(e:Z9)(c1:Nat)(d:Z9)(c:Nat)(j:(lim (ab a.num)).length<=c1)(l:(lim a.den).length<=c)(z:(lim (ab a.num)).length<=300000000)(B:(lim a.den).length<=300000000)(w:World)(h:Hp)(g:G w h)(u:S3 e (lim (ab a.num)) h)(p:S3 d (lim a.den) h):CR 179 #[rG a e c1 d c] w h (fun v h1=>RQ h1 v (-a)):=by
 have b:=(((sS g).aS u).aS p);refine go Tryz.func179 [(0,rG a e c1 d c)] rfl (ax (lA 1 28 (gE a e c1 d c) b (fun y w2 H b=>lA 2 28 cA b (fun I F D b=>ag (cR 6 [] mixed b ao ?_)))));refine eV 0 3 (pB y) (eO 1 4 [(1,0,2)] (.agg #[.bool (af a.num),qS e ((lim (ab a.num)).length) c1]) b (eV 3 6 (qP y 2) (eO 4 7 [(1,2,1)] (qS d ((lim a.den).length) c) b (eC 2 5 b (fun _ _ b=>ux a.num e c1 j oM _ _ b.g b.f.2.1) ?_))));rintro _ _ _ _ _ b ⟨o,i,rfl,x,C⟩;replace b:=b.aS C;exact eV 5 8 (.agg #[.bool (af (-a.num)),qS o ((lim (ab (-a.num))).length) i,qS d ((lim a.den).length) c]) (bU b (fun _ _ b=>tP 6 0 0 ([.bool (af (-a.num)),qS o ((lim (ab (-a.num))).length) i,qS d ((lim a.den).length) c]) b (fun _ b=>tN (kX (b.ret [(0,0,3)] (.agg #[.bool (af (-a.num)),qS o ((lim (ab (-a.num))).length) i,qS d ((lim a.den).length) c]) (Jn ⟨_,_,_,_,rfl,x,l,b.f.1,b.f.2.1⟩))))))
theorem Ki (a:Rat)(l:Z9)(c1:Nat)(j:Z9)(e:Nat)(x:(lim (ab a.num)).length<=c1)(z:(lim a.den).length<=e)(I:(lim (ab a.num)).length<=300000000)(J:(lim a.den).length<=300000000)(b:Rat)(d:Z9)(c2:Nat)(o:Z9)(i:Nat)(H:(lim (ab b.num)).length<=c2)(y:(lim b.den).length<=i)(u:(lim (ab b.num)).length<=300000000)(p:(lim b.den).length<=300000000)(w:World)(h:Hp)(g:G w h)(D:S3 l (lim (ab a.num)) h)(C:S3 j (lim a.den) h)(B:S3 d (lim (ab b.num)) h)(F:S3 o (lim b.den) h):CR 147 #[rG a l c1 j e,rG b d c2 o i] w h (fun v h1=>RQ h1 v (a-b)):=by
 have c:=(((((sS g).aS D).aS C).aS B).aS F);refine go Tryz.func147 [(0,rG a l c1 j e),(1,rG b d c2 o i)] rfl (ax (lA 2 28 (gE a l c1 j e) c (fun b1 w2 h3 c=>lA 3 28 (gE b d c2 o i) c (fun b4 w5 h6 c=>lA 4 28 cA c (fun b7 w8 h9 c=>ag (cR 4 [] mixed c ao ?_))))));refine eO 0 5 [(2,0,3)] (rG a l c1 j e) c (eO 1 6 [(1,0,3)] (rG b d c2 o i) c (eC 2 7 c (fun _ _ c=>J3 b d c2 o i H y u p _ _ c.g c.f.2.1 c.f.1) ?_));rintro _ _ _ _ _ c ⟨X,U,S,Z,rfl,Q,Y,W,V⟩;replace c:=c.aP W V;refine eC 3 8 c (fun _ _ c=>FQ a l c1 j e x z I J (-b) X U S Z Q Y (by rw[Nj];unfold ab;rw[Np];exact u) (by rw[Nk];exact p) _ _ c.g c.f.q.2.1 c.f.q.1 c.f.2.1 c.f.1) ?_;rintro _ _ _ _ _ c ⟨M,O,L,K,rfl,zj,zk,zl,zm⟩;replace c:=c.aP zl zm;exact bU c (fun _ _ c=>tP 4 0 0 (gE (a+(-b)) M O L K) c (fun _ c=>tN (kX (c.ret [(0,0,3)] (rG (a+(-b)) M O L K) (by rw[Ny];exact ⟨_,_,_,_,rfl,zj,zk,c.f.2.1,c.f.1⟩)))))
theorem l6 (a:Nat)(A:Z9)(c:Nat)(j:(lim a).length<=c)(b:Nat)(D:Z9)(d:Nat)(i:(lim b).length<=d)(e:(lim a).length<=3000000000)(x:(lim b).length<=1)(u:0<b)(w:World)(h:Hp)(g:G w h)(p:S3 A (lim a) h)(f:S3 D (lim b) h):CR 158 #[.slice A (lim a).length c,.slice D (lim b).length d] w h (fun v h1=>∃ l o,v=.tuple #[l,o]/\RN h1 l (a/b)/\RN h1 o (a%b)):=by
 have y:=bT.2 u
 rcases dS a b with h1|h1
 ·exact nJ a A c j b D d i e oM h1 w h g p f
 ·exact mX a A c j b D d i e oM h1 oM w h g p f
theorem xM (a:Nat)(A:Z9)(c:Nat)(Z:(lim a).length<=c)(b:Nat)(D:Z9)(d:Nat)(U:(lim b).length<=d)(I:(lim a).length<=3000000000)(C:(lim b).length<=1)(w:World)(h:Hp)(g:G w h)(hA:S3 A (lim a) h)(S:S3 D (lim b) h):CR 157 #[.slice A ((lim a).length) c,.slice D ((lim b).length) d] w h (fun v h1=>RN h1 v (MC a b)):=by
 have e:=(((sS g).aS hA).aS S);refine go Tryz.func157 [(0,qS A ((lim a).length) c),(1,qS D ((lim b).length) d)] rfl (aa e ac (ag (kZ ?_)));replace e:=e.aS e.f.1;replace e:=e.aS e.f.r.1;refine bH _ (CG.loop (fun B Γ M=>∃ (x:Nat)(j:Z9)(c1:Nat)(y:Nat)(o:Z9)(c2:Nat)(F:Hp),B=y/\Γ=[(4,sZ),(0,qS j ((lim x).length) c1),(1,qS o ((lim y).length) c2)]/\SS w h M F [] [] [S3 j (lim x),S3 o (lim y),S3 D (lim b),S3 A (lim a)]/\(lim x).length<=c1/\(lim y).length<=c2/\(lim x).length<=3000000000/\(lim y).length<=1/\MC x y=MC a b) _ ⟨a,A,c,b,D,d,h,rfl,rfl,e.to _ _,Z,U,I,C,rfl⟩ ?_);rintro _ _ w1 ⟨x,j,c1,y,o,c2,h2,hm3,rfl,e,p,u,W,Q,K⟩;refine cQ (aa e [.c,.v (nV ((lim y).length))] ?_);cases i:(decide ((0:Int)<(((lim y).length:Nat):Int)))
 .
  have l:=oF i;refine lB 9 i (ah (CG.exit ?_))
  show CG _ _ _ _ _ _ _ _
  refine aa e aD (lN (kX ?_));have z:y=0:=Nat.eq_zero_of_not_pos (fun F=>by have:=bT.2 F;omega);exact e.ret [] (qS j ((lim x).length) c1) (by rw[<-K,z,MW];exact ⟨j,c1,rfl,p,e.f.1⟩)
 have l:=oT i;refine lB 9 i (am (cK (kZ (aa e aD (lC 13 e (l6 x j c1 p y o c2 u oM oM (bT.1 oM) _ _ e.g e.f.1 e.f.2.1) ?_)))));rintro _ w5 O e ⟨_,_,rfl,⟨X,cq,rfl,V,hq⟩,⟨L,J,rfl,H,hr⟩⟩;replace e:=e.aS hr;have hmd:=z2 x (bT.1 (show 0<(lim y).length by omega));have Y:=dH (show x%y<=y by omega);refine lL e [.c,.v (qS X (lim (x/y)).length cq),.v (qS L ((lim (x%y)).length) J),.c,.c] (aG (lL e aD (lN (kQ (lL e aD (lD ?_))))));intro a_ ka;replace e:=((e.tl.tl.tl.aS e.f.1).aS e.f.r.1);refine ⟨_,_,?_,⟨y,o,c2,x%y,L,J,O,rfl,rfl,e.to _ _,u,H,oM,oM,(by rw[jm];exact K)⟩,ka.to _ kR⟩
 omega
theorem wg (a:Nat)(A:Z9)(c:Nat)(o:(lim a).length<=c)(b:Nat)(D:Z9)(d:Nat)(j:(lim b).length<=d)(q:Nat)(l:q=MC a b)(f:(lim a).length<=3000000000)(e:(lim b).length<=1)(w:World)(h:Hp)(g:G w h)(p:S3 A (lim a) h)(i:S3 D (lim b) h):CR 157 #[.slice A (lim a).length c,.slice D (lim b).length d] w h (fun v h1=>RN h1 v q):=by
 subst l;exact xM a A c o b D d j f e w h g p i
theorem rX {z:Int}(h0 : -4294967296<z)(h1:z<4294967296):(lim (ab z)).length<=1:=ej (by unfold ab;omega)
theorem Gp (x:Int)(A:Z9)(c:Nat)(O:(lim (ab x)).length<=c)(hLx:(lim (ab x)).length<=2000000000)(y:Int)(D:Z9)(d:Nat)(J:(lim (ab y)).length<=d)(H:(lim (ab y)).length<=1)(B:y≠0)(w:World)(h:Hp)(g:G w h)(hA:S3 A (lim (ab x)) h)(U:S3 D (lim (ab y)) h):CR 121 #[.agg #[.bool (af x),.slice A ((lim (ab x)).length) c],.agg #[.bool (af y),.slice D ((lim (ab y)).length) d]] w h (fun v h1=>RQ h1 v (mkR x y)):=by
 have a:=(((sS g).aS hA).aS U);obtain ⟨l,j,i⟩:=nz x y B;obtain ⟨q,hq⟩:∃ q,q=MC (ab x) (ab y):=⟨_,rfl⟩;rw[<-hq] at l j i
 have X:(lim q).length<=1:=gt (by rw[hq];exact Nl _ (by unfold ab;omega)) H;refine go Tryz.func121 [(0,.agg #[.bool (af x),qS A ((lim (ab x)).length) c]),(1,.agg #[.bool (af y),qS D ((lim (ab y)).length) d])] rfl (ax (lA 2 26 ([.bool (af x),qS A ((lim (ab x)).length) c]) a (fun C w2 h3 a=>lA 3 26 ([.bool (af y),qS D ((lim (ab y)).length) d]) a (fun F w5 h6 a=>lA 4 28 cA a (fun b7 w8 h9 a=>aG (lL a [.v (qP C 1),.o (qS A ((lim (ab x)).length) c) 2 1 1,.v (qP F 1),.o (qS D ((lim (ab y)).length) d) 1 1 1] (lC 14 a (wg (ab x) A c O (ab y) D d J q hq oM oM _ _ a.g a.f.2.1 a.f.1) ?_)))))));rintro _ _ _ a ⟨M,L,rfl,Q,zk⟩;replace a:=a.aS zk;refine lL a ac (aG (lL a [.v (qP C 1),.o (qS A ((lim (ab x)).length) c) 2 1 1,.c] (lC 19 a (l6 (ab x) A c O q M L Q oM oM i _ _ a.g a.f.r.1 a.f.1) ?_)));rintro _ _ _ a ⟨_,b,rfl,⟨K,S,rfl,zl,zm⟩,-⟩;replace a:=a.aS zm;refine lL a [.c,.v (qS K ((lim ((ab x)/q)).length) S),.v b,.c,.c] (aG (lL a [.v (qP F 1),.o (qS D ((lim (ab y)).length) d) 1 1 1,.c] (lC 26 a (l6 (ab y) D d J q M L Q oM oM i _ _ a.g a.f.r.1 a.f.2.1) ?_)));rintro _ _ _ a ⟨_,e,rfl,⟨p,u,rfl,Y,W⟩,-⟩;replace a:=a.aS W;refine lL a [.c,.v (qS p ((lim ((ab y)/q)).length) u),.v e,.c,.c] (aG (lL a [.v (pB C),.o (.bool (af x)) 2 0 1,.v (pB F),.o (.bool (af y)) 1 0 1,.v (.bool ((af x) != (af y))),.c] (lC 35 a (rI ((af x) != (af y)) ((ab x)/q) K S zl _ _ a.g a.f.2.1) ?_)));rintro _ _ _ a ⟨I,z,rfl,V,Z⟩;replace a:=a.aS Z;exact lL a [.c,.v (.agg #[.bool (af (bB ((af x) != (af y)) ((ab x)/q))),qS I ((lim (ab (bB ((af x) != (af y)) ((ab x)/q)))).length) z,qS p ((lim ((ab y)/q)).length) u])] (lP 0 0 ([.bool (af (bB ((af x) != (af y)) ((ab x)/q))),qS I ((lim (ab (bB ((af x) != (af y)) ((ab x)/q)))).length) z,qS p ((lim ((ab y)/q)).length) u]) a (fun _ a=>ae a [(0,0,3)] (.agg #[.bool (af (bB ((af x) != (af y)) ((ab x)/q))),qS I ((lim (ab (bB ((af x) != (af y)) ((ab x)/q)))).length) z,qS p ((lim ((ab y)/q)).length) u]) (by unfold RQ;rw[l,j];exact ⟨_,_,_,_,rfl,V,Y,a.f.1,a.f.2.1⟩)))
theorem xu (x y:Int)(b:y≠0)(h0 : -9223372036854775808<=x)(h1:x<9223372036854775808)(z : -4294967296<y)(e:y<4294967296)(w:World)(h:Hp)(g:G w h):CR 72 #[iV x,iV y] w h (fun v h1=>RQ h1 v (mkR x y)):=by
 have a:=sS g;have D:=wh h0 h1;have u:=rX z e;refine go Tryz.func72 [(0,iV x),(1,iV y)] rfl (ax (lA 4 28 cA a (fun O w2 e a=>aG (lL a ac (lC 6 a (sN x oM oM _ _ a.g) ?_)))));rintro _ Q S a ⟨B,L,rfl,c,d⟩;replace a:=a.aS d;refine lL a ac (lC 8 a (sN y oM oM _ _ a.g) ?_);rintro _ _ _ a ⟨I,J,rfl,p,H⟩;replace a:=a.aS H;refine lC 9 a (Gp x B L c oM y I J p oM b _ _ a.g a.f.2.1 a.f.1) ?_;rintro _ _ _ a ⟨l,o,j,i,rfl,F,C,M,K⟩;replace a:=a.aP M K;exact lP 0 0 (gE (mkR x y) l o j i) a (fun _ a=>ae a [(0,0,3)] (rG (mkR x y) l o j i) (by skip;exact ⟨_,_,_,_,rfl,F,C,a.f.2.1,a.f.1⟩))
theorem Ij (a:Nat)(A:Z9)(c:Nat)(j:(lim a).length<=c)(y:(lim a).length<=300000000)(w:World)(h:Hp)(g:G w h)(l:S3 A (lim a) h):CV 57 #[.slice A ((lim a).length) c] w h (nv a):=by
 have b:=((sS g).aS l);have e:=td a;refine go Tryz.func57 [(0,qS A ((lim a).length) c)] rfl (ax (lA 2 40 ([uV 0,eS]) b (fun u w2 x b=>aG (lL b ac (lC 4 b (vA a A c j oM _ _ b.g b.f.1) ?_)))));rintro _ o p b ⟨i,rfl,d⟩;replace b:=b.aS d;exact aq 5 b (AI a ((nb a+7)/8) i ((nb a+7)/8) (nR _) oM (xj a) _ _ b.g b.f.1) (fun z B b=>lP 0 0 (nc a) b (fun _ b=>ae b [(0,0,2)] (nv a) rfl))
theorem Kh (z:Int)(A:Z9)(c:Nat)(i:(lim (ab z)).length<=c)(e:(lim (ab z)).length<=300000000)(w:World)(h:Hp)(g:G w h)(j:S3 A (lim (ab z)) h):CV 55 #[.agg #[.bool (af z),.slice A ((lim (ab z)).length) c]] w h (iv z):=by
 have a:=((sS g).aS j);have d:=C8 (ab z);refine go Tryz.func55 [(0,.agg #[.bool (af z),qS A ((lim (ab z)).length) c])] rfl (ax (lA 1 26 ([.bool (af z),qS A ((lim (ab z)).length) c]) a (fun b w2 u a=>lA 2 42 ([qF,uV 0,eS]) a (fun x p o a=>ag (cR 6 [] mixed a ao ?_)))));exact eV 0 3 (pB b) (eO 1 4 [(1,0,1)] (.bool (af z)) a (eV 2 5 (qP b 1) (eO 3 6 [(1,1,1)] (qS A ((lim (ab z)).length) c) a (au 4 7 a (fun _ _ a=>Ij (ab z) A c i (by first|exact e|exact LQ.ld hq|omega) _ _ a.g a.f.1) (fun l B a=>au 5 8 a (fun _ _ a=>f4 (af z) (ab z) oM _ _ a.g) (fun y _ a=>bU a (fun _ _ a=>tP 6 0 0 (ic (bB (af z) (ab z))) a (fun _ a=>tN (kX (a.ret [(0,0,3)] (iv (bB (af z) (ab z))) (congrArg iv (ml z))))))))))))
theorem xq (q:Rat):mkR q.num ((q.den:Nat):Int)=q:=by
 unfold mkR;rw[if_neg oM];show mkRat q.num q.den=q;rw[Nx]
theorem K6 (q:Rat)(d:Z9)(c1:Nat)(c:Z9)(b:Nat)(i:(lim (ab q.num)).length<=c1)(j:(lim q.den).length<=b)(e:LQ 100000000 q)(w:World)(h:Hp)(g:G w h)(p:S3 d (lim (ab q.num)) h)(l:S3 c (lim q.den) h)(z:Tab h):CV 25 #[rG q d c1 c b] w h (qv q):=by
 have a:=((((sS g).aS p).aS l).aB z);refine go Tryz.func25 [(0,rG q d c1 c b)] rfl (ax (lA 1 28 (gE q d c1 c b) a (fun x w2 F a=>lA 2 44 a6 a (fun H D C a=>ag ?_))));have u:=a;exact cR 12 [⟨11,3,.cells (MU [qF,uV 0,eS,uV 0,eS]) 44 (0,0)⟩] mixed a (bw (ee kR (fun _ _=>by kernel_rfl)) ao) (eV 0 6 (pB x) (eO 1 7 [(1,0,2)] (.agg #[.bool (af q.num),qS d ((lim (ab q.num)).length) c1]) a (eV 3 9 (qP x 2) (eO 4 10 [(1,2,1)] (qS c ((lim q.den).length) b) a (au 2 8 a (fun _ _ a=>Kh q.num d c1 i (LQ.ln e) _ _ a.g a.f.r.1) (fun B J a=>au 5 11 a (fun _ _ a=>Ij q.den c b j (by first|exact hl|exact LQ.ld e|omega) _ _ a.g a.f.2.1) (fun I _ a=>au 6 12 a (fun _ _ a=>eP q.den _ _ a.g) (fun _ _ a=>au 7 13 a (fun _ _ a=>Jd q.num (q.den:Int) (by have:=q.den_pos;omega) (by have:=e.1;omega) (by show (wds q.den).length<=_;have:=e.2;omega) _ _ a.g a.f.1) (fun _ _ a=>eV 8 5 (.tuple #[qv (mkR q.num (q.den:Int)),qT]) (eV 9 14 (qv (mkR q.num (q.den:Int))) (eV 10 15 qT (fL [] u a 44 [qF,uV 0,eS,uV 0,eS] (fun _ _ y a=>tP 12 0 0 (qc (mkR q.num (q.den:Int))) a (fun _ a=>tV 13 4 qT (qy (lL a [.o (qv (mkR q.num (q.den:Int))) 0 0 5] (lP 1 0 (qc (mkR q.num (q.den:Int))) a (fun _ a=>ae a [(1,0,5)] (qv (mkR q.num (q.den:Int))) (congrArg qv (xq q))))))))))))))))))))
theorem Iw (v:Value)(q:Rat)(e:LQ 100000000 q)(w:World)(h:Hp)(g:G w h)(hv:RQ h v q)(f:Tab h):CV 25 #[v] w h (qv q):=by
 obtain ⟨A,c,B,d,rfl,h1,a,b,i⟩:=hv;exact K6 q A c B d h1 a e w h g b i f
theorem vf (n:Nat)(z:(wds n).length<=100000000)(w:World)(h:Hp)(g:G w h):CR 75 #[nv n] w h (fun v h1=>RN h1 v n):=by
 have a:=sS g;have d:=mH n;refine go Tryz.func75 [(0,nv n)] rfl (ax (lA 1 40 (nc n) a (fun x w2 y a=>lL a ac (aG (lL a [.o (nv n) 0 0 2] (lC 4 a (Bz n oM _ _ a.g) ?_))))));rintro _ p u a ⟨e,rfl,b⟩;replace a:=a.aS b;refine lC 5 a (xQ n ((nb n+7)/8) e ((nb n+7)/8) (nR _) oM (xj n) _ _ a.g a.f.1) ?_;rintro _ _ _ a ⟨i,c,rfl,j,l⟩;replace a:=a.aS l;exact lL a ac (ae a [] (qS i ((lim n).length) c) (⟨_,_,rfl,j,a.f.1⟩))
theorem CS (z:Int):bB (decide (z.sign<(0:Int))) (ab z)=z:=by
 rcases M0 z 0 with h|h|h
 ·rw[M1 h];unfold bB ab;simp;omega
 ·subst h;rfl
 ·rw[M3 h];unfold bB ab;simp;omega
theorem DU (z:Int)(D:(wds (ab z)).length<=100000000)(w:World)(h:Hp)(g:G w h):CR 73 #[iv z] w h (fun v h1=>RI h1 v z):=by
 have a:=sS g;refine go Tryz.func73 [(0,iv z)] rfl (ax (lA 1 42 (ic z) a (fun y w2 B a=>lA 2 26 ([qF,sZ]) a (fun C x u a=>ag (cR 7 [] mixed a ao ?_)))));refine eO 0 3 [(1,0,3)] (iv z) a (eO 3 6 [(1,0,3)] (iv z) a (au 1 4 a (fun _ _ a=>mg z oM _ _ a.g) (fun p H a=>eV 2 5 (.bool (decide ((z.sign:Int)<(0:Int)))) (au 4 7 a (fun _ _ a=>wU z _ _ a.g) (fun F _ a=>eC 5 8 a (fun _ _ a=>vf (ab z) (by first|exact hq.2|omega) _ _ a.g) ?_)))));rintro _ _ _ _ _ a ⟨i,e,rfl,o,l⟩;replace a:=a.aS l;refine eC 6 9 a (fun _ _ a=>rI (decide ((z.sign:Int)<(0:Int))) (ab z) i e o _ _ a.g a.f.1) ?_;rintro _ _ _ _ _ a ⟨b,c,rfl,d,j⟩;replace a:=a.aS j;exact bU a (fun _ _ a=>tP 7 0 0 ([.bool (af (bB (decide ((z.sign:Int)<(0:Int))) (ab z))),qS b ((lim (ab (bB (decide ((z.sign:Int)<(0:Int))) (ab z)))).length) c]) a (fun _ a=>tN (kX (a.ret [(0,0,2)] (.agg #[.bool (af (bB (decide ((z.sign:Int)<(0:Int))) (ab z))),qS b ((lim (ab (bB (decide ((z.sign:Int)<(0:Int))) (ab z)))).length) c]) (by rw[CS] at *;exact ⟨_,_,rfl,d,a.f.1⟩)))))
theorem Kc (q:Rat)(b:LQ 100000000 q)(w:World)(h:Hp)(g:G w h):CR 33 #[qv q] w h (fun v h1=>RQ h1 v q):=by
 have a:=sS g;refine go Tryz.func33 [(0,qv q)] rfl (ax (lA 1 44 (qc q) a (fun z w2 B a=>lA 2 28 cA a (fun C y x a=>ag (cR 7 [] mixed a ao ?_)))));refine eO 0 3 [(1,0,5)] (qv q) a (eO 3 6 [(1,0,5)] (qv q) a (au 1 4 a (fun _ _ a=>KF q _ _ a.g) (fun u D a=>eC 2 5 a (fun _ _ a=>DU q.num b.1 _ _ a.g) ?_)));rintro _ _ _ _ _ a ⟨c,e,rfl,p,j⟩;replace a:=a.aS j;refine au 4 7 a (fun _ _ a=>fP q b _ _ a.g) (fun _ _ a=>eC 5 8 a (fun _ _ a=>vf q.den (by first|exact b.2|omega) _ _ a.g) ?_);rintro _ _ _ _ _ a ⟨i,d,rfl,o,l⟩;replace a:=a.aS l;exact eV 6 9 (rG q c e i d) (bU a (fun _ _ a=>tP 7 0 0 (gE q c e i d) a (fun _ a=>tN (kX (a.ret [(0,0,3)] (rG q c e i d) (⟨_,_,_,_,rfl,p,o,a.f.2.1,a.f.1⟩))))))
def it (a b:Rat):Bool:=decide (a=b)
theorem CQ {a b:Rat}(h1:bZ (ab a.num) (ab b.num)=0)(d:af a.num=af b.num)(c:bZ a.den b.den=0):true=it a b:=by
 have e1:ab a.num=ab b.num:=by unfold bZ at h1;split at h1;omega;split at h1;omega;omega
 have e:a.den=b.den:=by unfold bZ at c;split at c;omega;split at c;omega;omega
 have e2:a.num=b.num:=by rw[<-ml a.num,<-ml b.num,e1,d]
 symm
 exact decide_eq_true (Rat.ext e2 e)
theorem nO (a:Nat):bZ a a=0:=by simp[bZ]
theorem oW {a b:Rat}(h:bZ (ab a.num) (ab b.num)≠0\/af a.num≠af b.num\/bZ a.den b.den≠0):false=it a b:=by
 symm
 refine decide_eq_false ?_;rintro rfl
 rcases h with h|h|h
 ·exact h (nO _)
 ·exact h rfl
 ·exact h (nO _)
theorem AV (q r:Rat)(I:LQ 100000000 q)(hr:LQ 100000000 r)(i:Z9)(c1:Nat)(d:Z9)(b:Nat)(z:(lim (ab r.num)).length<=c1)(C:(lim r.den).length<=b)(w:World)(h:Hp)(g:G w h)(H:S3 i (lim (ab r.num)) h)(D:S3 d (lim r.den) h):CV 13 #[qv q,rG r i c1 d b] w h (.bool (it q r)):=by
 have a:=(((sS g).aS H).aS D);have j:0<(lim r.den).length:=bT.2 r.den_pos;have U:=LQ.ln I;have S:=LQ.ld I;have Y:=LQ.ln hr;have O:=LQ.ld hr;refine go Tryz.func13 [(0,qv q),(1,rG r i c1 d b)] rfl (ax (lA 2 44 (qc q) a (fun b1 w2 h3 a=>lA 3 28 (gE r i c1 d b) a (fun e w5 h6 a=>lL a ac (aG (lL a [.o (qv q) 1 0 5] (lC 7 a (Kc q I _ _ a.g) ?_)))))));rintro _ _ _ a ⟨F,x,K,B,rfl,J,X,V,W⟩;replace a:=a.aP V W;refine lA 5 28 cA a (fun l _ _ a=>lP 0 0 (gE q F x K B) a (fun _ a=>ag (aa a [.v (qP e 2),.o (qS d ((lim r.den).length) b) 1 2 1,.v (nV ((lim r.den).length))] ?_)));have M:((((lim r.den).length:Nat):Int) == (0:Int))=false:=(by simp;exact fun h=>Nat.lt_irrefl 0 (by rw[h] at j;exact j));have y:=aj M;refine lB 11 M (ah (cK (aa a [.v (pB l),.v (qP l 1),.o (qS F ((lim (ab q.num)).length) x) 0 1 1,.v (pB e),.v (qP e 1),.o (qS i ((lim (ab r.num)).length) c1) 1 1 1] (aq 19 a (gy (ab q.num) F x J (ab r.num) i c1 z oM oM _ _ a.g a.f.2.1 a.f.r.2.1) (fun _ _ a=>?_)))));cases p:((bZ (ab q.num) (ab r.num):Int) == (0:Int))
 .
  have Q:=aj p;refine lB 20 p (lL a ac (lG 22 ?_));refine lG 23 (lG 24 (lG 25 (lG 26 (lG 27 (lG 28 (lL a [.v qF,.c] (lG 31 ?_)))))));exact lG 32 (lG 33 (lG 34 (lG 35 (lG 36 (lL a [.v qF,.c] (ae a [] qF (congrArg Value.bool (oW (by first|(left;assumption)|(right;right;assumption)|(right;left;exact beq_eq_false_iff_ne.1 ‹_›))))))))))
 have Q:=eq_of_beq p;refine lB 20 p (lL a [.c,.v (pB l),.v (pB l),.o (.bool (af q.num)) 0 0 1,.v (pB e),.v (pB e),.o (.bool (af r.num)) 1 0 1] ?_);cases L:((af q.num) == (af r.num))
 .
  refine lB 28 L (lL a [.v qF,.c] (lG 31 ?_));exact lG 32 (lG 33 (lG 34 (lG 35 (lG 36 (lL a [.v qF,.c] (ae a [] qF (congrArg Value.bool (oW (by first|(left;assumption)|(right;right;assumption)|(right;left;exact beq_eq_false_iff_ne.1 ‹_›))))))))))
 refine lB 28 L (lL a [.v qT,.c,.v (qP l 2),.o (qS K ((lim q.den).length) B) 0 2 1,.v (qP e 2),.o (qS d ((lim r.den).length) b) 1 2 1] (aq 35 a (gy q.den K B X r.den d b C oM oM _ _ a.g a.f.1 a.f.r.1) (fun _ _ a=>?_)));cases u:((bZ q.den r.den:Int) == (0:Int))
 .
  have Z:=aj u;exact lB 36 u (lL a [.v qF,.c] (ae a [] qF (congrArg Value.bool (oW (by first|(left;assumption)|(right;right;assumption)|(right;left;exact beq_eq_false_iff_ne.1 ‹_›))))))
 have Z:=eq_of_beq u;exact lB 36 u (lL a [.v qT,.c] (ae a [] qT (congrArg Value.bool (CQ aM (eq_of_beq ‹_›) aM))))
theorem LQ.mkR {n d:Int}(h:d≠0)(h0 : -9223372036854775808<=n)(h1:n<=9223372036854775807)(f : -9223372036854775808<=d)(i:d<=9223372036854775807):LQ 1 (mkR n d):=by
 unfold Go.Proofs.YthfkmhgnndmblaaGreatDoor.mkR
 have c:0<ab d:=by unfold ab;omega
 obtain ⟨b,e,a,j⟩:=iD (if d<0 then -n else n) (ab d) c;refine ⟨?_,?_⟩
 ·rw[b];refine eE.2 (Ga (co _ _ a) ?_)
  unfold ab;split<;>omega
 ·rw[e];exact eE.2 (Ga (Gb _ _) (by unfold ab;omega))
theorem nx (q:Rat)(z e:Int)(p:LQ 100000000 q)(u:e≠0)(c : -9223372036854775808<=z)(y:z<9223372036854775808)(i : -4294967296<e)(o:e<4294967296)(w:World)(h:Hp)(g:G w h):CV 32 #[qv q,iV z,iV e] w h (.bool (it q (mkR z e))):=by
 have a:=sS g;have x:LQ 100000000 (mkR z e):=(LQ.mkR u c oM oM oM).mono oM;refine go Tryz.func32 [(0,qv q),(1,iV z),(2,iV e)] rfl (ax (lA 3 44 (qc q) a (fun H w2 I a=>lL a ac (ag (cR 5 [] mixed a ao ?_)))));refine eO 0 7 [(0,0,5)] (qv q) a (eV 1 8 (iV z) (eV 2 9 (iV e) (eC 3 10 a (fun _ _ a=>xu z e oM oM oM oM oM _ _ a.g) ?_)));rintro _ _ _ _ _ a ⟨l,C,B,j,rfl,b,D,d,F⟩;replace a:=a.aP d F;exact au 4 11 a (fun _ _ a=>AV q (mkR z e) p x l C B j b D _ _ a.g a.f.2.1 a.f.1) (fun _ _ a=>bU a (fun _ _ a=>tV 5 6 (.bool (it q (mkR z e))) (tN (kX (a.ret [] (.bool (it q (mkR z e))) rfl)))))
def aW (n:Int)(m:Nat):Nat:=(n%(m:Int)).toNat
theorem cO (n:Int)(m:Nat)(h:0<m):aW n m<m:=by
 unfold aW
 have h1:=NB n (show (m:Int)≠0 by omega);have a:=NC n (show (0:Int)<m by omega)
 omega
theorem pt (n:Int)(m:Nat)(h:0<m):((aW n m:Nat):Int)=n%(m:Int):=by
 unfold aW
 have h1:=NB n (show (m:Int)≠0 by omega)
 omega
theorem qG (n:Int)(m:Nat)(d:0<m)(hn:n<0):(n%(m:Int)=0/\n.tmod (m:Int)=0)\/(0<n%(m:Int)/\n.tmod (m:Int)=n%(m:Int)-m):=by
 have c:=NB n (show (m:Int)≠0 by omega);rw[Int.tmod_eq_emod]
 by_cases h:(m:Int)∣n
 ·left
  rw[if_pos (.inr h)];have:=Int.emod_eq_zero_of_dvd h;exact ⟨this,by omega⟩
 ·right
  have b:¬(n%(m:Int)=0):=fun a=>h (Int.dvd_of_emod_eq_zero a)
  rw[if_neg (by intro a;rcases a with a|a;omega;exact h a)];refine ⟨by omega,by simp⟩
def o7 (k:Nat):Nat:=match k with|0=>1|1=>1|2=>1|3=>2|4=>3|_=>4
theorem pz (k:Nat):0<o7 k:=by unfold o7;split<;>omega
theorem u5 (k:Nat):o7 k<=4:=by unfold o7;split<;>omega
def dQ (n:Int):Rat:=mkR ((aW n 41:Int)-20) (o7 (aW (n.tdiv 41) 6):Nat)
def Hn (n:Int):Rat:=mkR ((aW n 9:Int)-4) (((aW (n.tdiv 9) 2:Nat):Int)+1)
theorem uf (n:Int)(m:Int)(c:1<m)(b : -9223372036854775808<=n)(a:n<=9223372036854775807) : -9223372036854775808<=n.tdiv m/\n.tdiv m<=9223372036854775807:=by
 have h1:(n.tdiv m).natAbs<=n.natAbs/2:=by
  rw[Int.natAbs_tdiv];exact Nat.div_le_div_left oM oM
 omega
theorem xe {n:Int}{m:Nat}(a:0<m)(h:n.tmod (m:Int)<0):n.tmod (m:Int)+m=((aW n m:Nat):Int):=by
 rw[pt n m a]
 rcases ND n 0 with hn|hn
 ·rcases qG n m a hn with ⟨h1,h2⟩|⟨h1,h2⟩<;>omega
 ·rw[NE hn] at h
  have:=NB n (show (m:Int)≠0 by omega)
  omega
theorem vR {n:Int}{m:Nat}(a:0<m)(h:¬n.tmod (m:Int)<0):n.tmod (m:Int)=((aW n m:Nat):Int):=by
 rw[pt n m a]
 rcases ND n 0 with hn|hn
 ·rcases qG n m a hn with ⟨h1,h2⟩|⟨h1,h2⟩
  ·omega
  ·have:=NC n (show (0:Int)<m by omega)
   omega
 ·rw[NE hn]
theorem Ca (n:Int){m:Nat}(b:0<m) : -(m:Int)<n.tmod (m:Int)/\n.tmod (m:Int)<m:=by
 have h1:=Int.tmod_lt_of_pos n (show (0:Int)<m by omega);have a:=Int.lt_tmod_of_pos n (show (0:Int)<m by omega);exact ⟨a,h1⟩
theorem fb (n:Int)(m:Nat)(f:0<m)(i:m<1000000)(w:World)(h:Hp)(g:G w h):CV 17 #[iV n,nV m] w h (nV (aW n m)):=by
 have c:=sS g;obtain ⟨l,j⟩:=Ca n f;refine go Tryz.func17 [(0,iV n),(1,nV m)] rfl (aa c ac (aG (lL c aD (lV 7 (iV (n.tmod (m:Nat))) ?_ (hr:=fj (t:=3) (u:=3) (x:=.tmp 5) (y:=.tmp 6) (k:=.i64) (a:=n) (b:=(m:Nat)) kR kR kR oM _)))));refine lL c ac (ag (aa c ac ?_));cases d:(decide ((n.tmod (m:Nat):Int)<(0:Int)))
 .
  have e:=oF d;exact lB 9 d (ah (cK (aa c aD (ae c [] (iV (n.tmod (m:Nat))) (congrArg (Value.int .i64) (vR f aM))))))
 have e:=oT d;refine lB 9 d (am (kQ (lL c aD (lI 12 ((n.tmod (m:Nat))+(m:Nat)) ?_))));exact lL c ac (aG (lL c aD (ae c [] (iV ((n.tmod (m:Nat))+(m:Nat))) (congrArg (Value.int .i64) (xe f aM)))))
theorem xv (w:World):(Instr.index 156 (.agg #[.int .i64 1,.int .i64 1,.int .i64 1,.int .i64 2,.int .i64 3,.int .i64 4]) (.int .i64 0)).run Tryz.prog w=.ok (.int .i64 1) w:=by kernel_rfl
theorem xw (w:World):(Instr.index 156 (.agg #[.int .i64 1,.int .i64 1,.int .i64 1,.int .i64 2,.int .i64 3,.int .i64 4]) (.int .i64 1)).run Tryz.prog w=.ok (.int .i64 1) w:=by kernel_rfl
theorem BX (w:World):(Instr.index 156 (.agg #[.int .i64 1,.int .i64 1,.int .i64 1,.int .i64 2,.int .i64 3,.int .i64 4]) (.int .i64 2)).run Tryz.prog w=.ok (.int .i64 1) w:=by kernel_rfl
theorem B1 (w:World):(Instr.index 156 (.agg #[.int .i64 1,.int .i64 1,.int .i64 1,.int .i64 2,.int .i64 3,.int .i64 4]) (.int .i64 3)).run Tryz.prog w=.ok (.int .i64 2) w:=by kernel_rfl
theorem wo (w:World):(Instr.index 156 (.agg #[.int .i64 1,.int .i64 1,.int .i64 1,.int .i64 2,.int .i64 3,.int .i64 4]) (.int .i64 4)).run Tryz.prog w=.ok (.int .i64 3) w:=by kernel_rfl
theorem Ba (w:World):(Instr.index 156 (.agg #[.int .i64 1,.int .i64 1,.int .i64 1,.int .i64 2,.int .i64 3,.int .i64 4]) (.int .i64 5)).run Tryz.prog w=.ok (.int .i64 4) w:=by kernel_rfl
theorem Gu (k:Nat)(h:k<6)(w:World):(Instr.index 156 (.agg #[.int .i64 1,.int .i64 1,.int .i64 1,.int .i64 2,.int .i64 3,.int .i64 4]) (.int .i64 (k:Int))).run Tryz.prog w=.ok (.int .i64 ((o7 k:Nat):Int)) w:=by
 have:k=0\/k=1\/k=2\/k=3\/k=4\/k=5:=by omega
 rcases this with rfl|rfl|rfl|rfl|rfl|rfl
 ·exact xv w
 ·exact xw w
 ·exact BX w
 ·exact B1 w
 ·exact wo w
 ·exact Ba w
theorem KI {Γ:cl}{o:Oper}{x y:Operand}(k:Nat)(h:k<6)(c:o.op=.index 156 x y)(b:ev Γ x=.agg #[.int .i64 1,.int .i64 1,.int .i64 1,.int .i64 2,.int .i64 3,.int .i64 4])(a:ev Γ y=.int .i64 (k:Nat))(w:World) :
  (execOp (ev Γ) o).run Tryz.prog w=.ok (.value (.int .i64 (o7 k:Nat))) w:=by
 unfold execOp;simp only[c];rw[b,a,Sem.run_bind,Gu k h w];rfl
theorem hR (n:Int)(h0 : -9223372036854775808<=n)(h1:n<=9223372036854775807)(w:World)(h:Hp)(g:G w h):CR 48 #[iV n] w h (fun v h1=>RQ h1 v (dQ n)):=by
 have a:=sS g;obtain ⟨L,D⟩:=uf n 41 oM h0 h1;have F:=cO n 41 oM;have l2:=cO (n.tdiv 41) 6 oM;have B:=pz (aW (n.tdiv 41) 6);have K:=u5 (aW (n.tdiv 41) 6);refine go Tryz.func48 [(0,iV n)] rfl (ax (lA 2 28 cA a (fun I w2 J a=>aG (lL a ac (aq 4 a (fb (n) 41 oM oM _ _ a.g) (fun H C a=>?_))))));have l:=cO (n) 41 oM;refine lI 5 ((aW (n) 41:Nat)-20) (lL a [.v (.agg #[iV 1,iV 1,iV 1,iV 2,iV 3,iV 4]),.c] (lV 8 (iV (n.tdiv 41)) ?_ (hr:=rS ((n.tdiv 41)) kR (pd oM oM))));refine aq 9 a (fb (n.tdiv 41) 6 oM oM _ _ a.g) (fun M O a=>?_);have z:=cO (n.tdiv 41) 6 oM;refine lV 10 (nV (o7 (aW (n.tdiv 41) 6))) ?_ (hr:=KI (x:=.tmp 6) (y:=.tmp 9) (aW (n.tdiv 41) 6) l2 kR kR kR _);refine lC 11 a (xu ((aW (n) 41:Nat)-20) (o7 (aW (n.tdiv 41) 6):Nat) oM oM oM oM oM _ _ a.g) ?_;rintro _ _ _ a ⟨e,i,d,b,rfl,j,u,p,o⟩;replace a:=a.aP p o;exact lP 0 0 (gE (dQ n) e i d b) a (fun _ a=>ae a [(0,0,3)] (rG (dQ n) e i d b) (⟨_,_,_,_,rfl,j,u,a.f.2.1,a.f.1⟩))
theorem LQ.hand (n:Int):LQ 1 (dQ n):=by
 unfold dQ
 have a:=cO n 41 oM;have c:=pz (aW (n.tdiv 41) 6);have b:=u5 (aW (n.tdiv 41) 6);exact LQ.mkR oM oM oM oM oM
abbrev RT:=Bool × Value × Value
def fX (t:RT):List Value:=[.bool t.1,t.2.1,t.2.2]
def gQ:RT:=(false,undef,undef)
abbrev rA (t:RT):Value:=.agg #[.bool t.1,t.2.1,t.2.2]
abbrev Sr (A:Z9)(l:List RT):Hp->Prop:=fun h_=>SlO 3 fX gQ h_ A l
def C7 (t:RT):Value:=.agg #[.bool t.1,t.2.1,t.2.2]
structure RTs (h:Hp) (ts:List RT) (qs:List Rat):Prop where
  len:ts.length=qs.length
  at_:∀ i,i<qs.length->RQ h (C7 (ts.getD i gQ)) (qs.getD i 0)
abbrev Rt (t:List RT)(l:List Rat):Hp->Prop:=fun h_=>RTs h_ t l
theorem RTs.gw {h a:Hp}{c:List RT}{b:List Rat}(r:RTs h c b)(u:Gw h a):RTs a c b:=⟨r.len,fun i hi=>(r.at_ i hi).gw u⟩
theorem SS.aT {t:List RT}{l:List Rat}{w0 w:World}{h0 h:Hp}{B:List Bx}{R:List Rw}{F:List (Hp->Prop)}(s:SS w0 h0 w h B R F)(p:RTs h t l):SS w0 h0 w h B R (Rt t l::F):=s.add (K:=Rt t l) p
theorem RTs.nil {h:Hp}:RTs h [] []:=⟨rfl,fun i hi=>by simp at hi⟩
theorem eu {α:Type}(l:List α)(x d:α)(i:Nat):(l++[x]).getD i d=if i<l.length then l.getD i d else if i=l.length then x else d:=by
 split
 ·rename_i h;simp[List.getElem?_append_left h]
 ·rename_i h
  split
  ·rename_i a;subst a;simp
  ·rename_i a;simp[s9 (show (l++[x]).length<=i by simp;omega)]
theorem RTs.snoc {h:Hp}{b:List RT}{a:List Rat}(r:RTs h b a){t:RT}{q:Rat}(c:RQ h (C7 t) q):RTs h (b++[t]) (a++[q]):=by
 refine ⟨by simp[r.len],fun i hi=>?_⟩;rw[eu,eu,r.len]
 split
 ·rename_i h1;exact r.at_ i h1
 ·rename_i h1
  have:i=a.length:=by simp at hi;omega
  rw[if_pos this,if_pos this];exact c
theorem mI {α:Type}{l:List α}{k:Nat}(d:α)(h:k<l.length):l.take (k+1)=l.take k++[l.getD k d]:=by
 rw[List.take_add_one];simp[h]
def vc (v:Value):List Value:=[v]
abbrev Sv (A:Z9)(l:List Value):Hp->Prop:=fun h_=>SlO 1 vc undef h_ A l
def mT (zs:List Int):Nat->List Rat
  | 0=>[]
  | k+1=>mT zs k++[if k<zs.length then dQ (zs.getD k 0) else 0]
theorem mQ (a:List Int)(k:Nat):(mT a k).length=k:=by induction k with|zero=>rfl|succ k ih=>simp[mT,ih]
def nh (zs:List Int):Prop:=∀ k,-9223372036854775808<=zs.getD k 0/\zs.getD k 0<=9223372036854775807
structure RVs (h:Hp) (vs:List Value) (qss:List (List Rat)):Prop where
  len:vs.length=qss.length
  at_:∀ i,i<qss.length->∃ A cap,∃ ts:List RT,vs.getD i undef=.slice A ts.length cap/\ts.length<=cap/\SlO 3 fX gQ h A ts/\RTs h ts (qss.getD i [])
abbrev Ru (t:List Value)(l:List (List Rat)):Hp->Prop:=fun h_=>RVs h_ t l
structure QVs (h:Hp) (vs:List Value) (qss:List (List Rat)):Prop where
  len:vs.length=qss.length
  at_:∀ i,i<qss.length->JR 5 qc 0 h (vs.getD i undef) (qss.getD i [])
abbrev Qu (t:List Value)(l:List (List Rat)):Hp->Prop:=fun h_=>QVs h_ t l
theorem nM {b:List Int}{k:Nat}{q:Rat}(e:(if k<b.length then dQ (b.getD k 0) else 0)=q){a:List RT}{c:Hp}(d:RTs c a (mT b k++[q])):RTs c a (mT b (k+1)):=by
 show RTs c a (mT b k++[_]);rw[e];exact d
theorem oD (a:List Int):∀ n i,LQ 1 ((mT a n).getD i 0)
  | 0,i=>LQ.lit (z:=0) kD
  | n + 1,i=>by
    show LQ 1 ((mT a n++[_]).getD i 0)
    rw[eu]
    split
    . exact oD a n i
    . split
      . split
        . exact LQ.hand _
        . exact LQ.lit (z:=0) kD
      . exact LQ.lit (z:=0) kD
theorem qx {h:Hp}{A D:Z9}{c d:Nat}{q:Rat}(h1:(lim (ab q.num)).length<=c)(a:(lim q.den).length<=d)(b:SlO 1 az 0 h A (lim (ab q.num)))(e:SlO 1 az 0 h D (lim q.den)):RQ h (C7 ((af q.num,.slice A (lim (ab q.num)).length c,.slice D (lim q.den).length d):RT)) q:=⟨_,_,_,_,rfl,h1,a,b,e⟩
theorem oQ (A:Z9)(o:Nat)(d:List RT)(b:List Rat)(Y:b.length<=1000000)(hf:∀ i,i<b.length->LQ 100000000 (b.getD i 0))(w:World)(h:Hp)(g:G w h)(M:Sr A d h)(I:RTs h d b)(U:Tab h):CR 10 #[.slice A d.length o] w h (fun v h1=>JR 5 qc 0 h1 v b):=by
 have a:=((((sS g).aS M).aT I).aB U);have F:=(a.f.2.1).len;refine go Tryz.func10 [(0,qS A d.length o)] rfl (aa a ac (aG (lL a ac (ag (aa a ac (aZ ?_))))));replace a:=a.nil 44 5;refine bH _ (CG.loop (fun B Γ H=>∃ (k:Nat)(x:Z9)(u:Nat)(e:List Rat)(D:Hp),B=b.length-k/\Γ=[(0,qS A d.length o),(2,sZ),(4,nV k),(3,qS x ((e).length) u)]/\SS w h H D [] [⟨44,5,x,u,(e).length,(e).flatMap qc⟩] [fun D=>Tab D,Rt d b,Sr A d]/\k<=b.length/\e=b.take k) _ ⟨0,none,0,[],h,rfl,rfl,a.to _ _,My _,rfl⟩ ?_);rintro _ _ w1 ⟨k,x,u,e,X,K,rfl,a,hk,p⟩;have J:e.length=k:=by rw[p];simp;omega
 refine cQ (aa a [.c,.c,.v (nV d.length)] ?_);cases j:(decide ((k:Int)<(d.length:Int)))
 .
  have y:=oF j;refine lB 8 j (ah (CG.exit ?_))
  show CG _ _ _ _ _ _ _ _
  refine aa a aD (lN (kX ?_));have C:e=b:=by rw[p];exact LU oM
  subst C;obtain ⟨W,a,z⟩:=a.pubr 0 (A:=x) (c:=u) (l:=e) (f:=qc) (ty:=44) (sz:=5) 0 (fun _=>rfl);exact a.ret [] (qS x ((e).length) u) (⟨_,_,rfl,z,a.f.1⟩)
 have y:=oT j;refine lB 8 j (am (cK (cQ (kZ (kQ (lL a dl (lX 14 A d.length o 3 (k:Nat) k ((a.f.r.1).ok oM) ?_)))))));refine lH 15 (rA (d.getD k gQ)) a ((a.f.r.1).el k oM) (aq 16 a (Iw _ (b.getD k 0) (hf k oM) _ _ a.g ((a.f.2.1).at_ k oM) a.f.1) (fun w8 h9 a=>lR 17 44 1 (qc (b.getD k 0)) a (fun S _ _ a=>lY 18 0 44 5 u x e qc (b.getD k 0) 56 S ca a a.f.1 (fun V O _ L a=>lL a ac (lN (kQ (lL a ac (bp 10 ((k:Nat)+1) (k+1) ?_))))))));refine lL a ac (lD ?_);intro Z Q;replace a:=a.tl;refine ⟨_,_,?_,⟨k+1,V,O,e++[b.getD k 0],L,rfl,rfl,a.to _ _,oM,(by rw[mI 0 oM,p])⟩,Q.to _ kR⟩
 omega
theorem Ib (A:Z9)(j:Nat)(b:List Int)(n:Nat)(hn:n<=1000000)(hl:b.length<=9223372036854775807)(hz:nh b)(w:World)(h:Hp)(g:G w h)(hA:Si A b h):CR 23 #[.slice A b.length j,nV n] w h (fun v h1=>∃ A c,∃ d:List RT,v=.slice A d.length c/\d.length<=c/\Sr A d h1/\RTs h1 d (mT b n)):=by
 have a:=((sS g).aS hA);refine go Tryz.func23 [(0,qS A b.length j),(1,nV n)] rfl (aa a ac (aG (lL a ac (ag (aa a ac (aZ ?_))))));replace a:=a.nil 28 3;replace a:=a.aT (RTs.nil);refine bH _ (CG.loop (fun I Γ S=>∃ (k:Nat)(p:Z9)(o:Nat)(d:List RT)(h_:Hp),I=n-k/\Γ=[(0,qS A b.length j),(1,nV n),(4,sZ),(6,nV k),(5,qS p ((d).length) o)]/\SS w h S h_ [] [⟨28,3,p,o,(d).length,(d).flatMap fX⟩] [Rt d (mT b k),Si A b]/\k<=n) _ ⟨0,none,0,[],h,rfl,rfl,a.to _ _,My _⟩ ?_);rintro _ _ w1 ⟨k,p,o,d,h2,hm3,rfl,a,hk⟩;have F:=(a.f.1).len;rw[mQ] at F
 refine cQ (aa a aD ?_);cases e:(decide ((k:Int)<(n:Int)))
 .
  have u:=oF e;refine lB 9 e (ah (CG.exit ?_))
  show CG _ _ _ _ _ _ _ _
  refine aa a aD (lN (kX ?_));have M:k=n:=by omega
  subst M;obtain ⟨h5,a,H⟩:=a.pubr 0 (A:=p) (c:=o) (l:=d) (f:=fX) (ty:=28) (sz:=3) gQ (fun _=>rfl);exact a.ret [] (qS p ((d).length) o) (⟨_,_,d,rfl,H,a.f.1,a.f.2.1⟩)
 have u:=oT e;refine lB 9 e (am (cK (cQ (kZ (aa a [.c,.c,.v (nV b.length)] ?_)))));cases i:(decide ((k:Int)<(b.length:Int)))
 .
  have x:=oF i;refine lB 15 i (ah (kQ (lL a ac (lC 25 a (oH 0 oM oM _ _ a.g) ?_))));rintro _ _ _ a ⟨y,B,C,z,rfl,Y,zj,zk,zl⟩;replace a:=a.aP zk zl;refine lR 26 28 1 (gE ((0:Int):Rat) y B C z) a (fun zq _ _ a=>lY 27 0 28 3 o p d fX ((af ((0:Int):Rat).num,qS y ((lim (ab ((0:Int):Rat).num)).length) B,qS C ((lim ((0:Int):Rat).den).length) z):RT) 56 zq (.agg #[qF,sZ,sZ]) a a.f.1 (fun Z zt _ U a=>lL a ac (lN (kQ (lL a ac (bp 11 ((k:Nat)+1) (k+1) ?_))))));refine lL a ac (lD ?_);intro a_ Q;replace a:=(a.tl.tl.tl.tl.add (K:=Rt (d++[((af ((0:Int):Rat).num,qS y ((lim (ab ((0:Int):Rat).num)).length) B,qS C ((lim ((0:Int):Rat).den).length) z):RT)]) (mT b (k+1))) (nM ((if_neg oM).trans (show (0:Rat)=((0:Int):Rat) from rfl)) (RTs.snoc a.f.r.2.1 (qx Y zj a.f.r.1 a.f.2.1))));refine ⟨_,_,?_,⟨k+1,Z,zt,d++[((af ((0:Int):Rat).num,qS y ((lim (ab ((0:Int):Rat).num)).length) B,qS C ((lim ((0:Int):Rat).den).length) z):RT)],U,rfl,rfl,a.to _ _,oM⟩,Q.to _ kR⟩
  omega
 have x:=oT i;refine lB 15 i (am (kQ (lL a dl (lX 19 A b.length j 1 (k:Nat) k ((a.f.2.1).ok oM) ?_))));refine lH 20 (iV (b.getD k 0)) a ((a.f.2.1).el k oM) (lC 21 a (hR (b.getD k 0) (hz k).1 (hz k).2 _ _ a.g) ?_);rintro _ _ _ a ⟨O,D,J,L,rfl,zm,zn,X,W⟩;replace a:=a.aP X W;refine lR 22 28 1 (gE (dQ (b.getD k 0)) O D J L) a (fun V _ _ a=>lY 23 0 28 3 o p d fX ((af (dQ (b.getD k 0)).num,qS O ((lim (ab (dQ (b.getD k 0)).num)).length) D,qS J ((lim (dQ (b.getD k 0)).den).length) L):RT) 56 V (.agg #[qF,sZ,sZ]) a a.f.1 (fun zw zx _ zA a=>lL a ac (lN (kQ (lL a ac (bp 11 ((k:Nat)+1) (k+1) ?_))))));refine lL a ac (lD ?_);intro a_ Q;replace a:=(a.tl.tl.tl.tl.aT (nM (if_pos oM) (RTs.snoc a.f.r.2.1 (qx zm zn a.f.r.1 a.f.2.1))));refine ⟨_,_,?_,⟨k+1,zw,zx,d++[((af (dQ (b.getD k 0)).num,qS O ((lim (ab (dQ (b.getD k 0)).num)).length) D,qS J ((lim (dQ (b.getD k 0)).den).length) L):RT)],zA,rfl,rfl,a.to _ _,oM⟩,Q.to _ kR⟩
 omega
def maxR (a b:Rat):Rat:=if a<b then b else a
theorem LQ.maxR {k:Nat}{a b:Rat}(ha:LQ k a)(c:LQ k b):LQ k (maxR a b):=by unfold Go.Proofs.YthfkmhgnndmblaaGreatDoor.maxR;split;exact c;exact ha
theorem Jt (A:Z9)(u:Nat)(a:List Rat)(D:Z9)(l:Nat)(b:List Rat)(K L:Nat)(hl:a.length=b.length)(hn:a.length<=1000000)(hb:a.length*(K+L+1)+K+L+2<=100000000)(ha:∀ i,i<a.length->LQ K (a.getD i 0))(e:∀ i,i<a.length->LQ L (b.getD i 0))(w:World)(h:Hp)(g:G w h)(W:Sq A a h)(O:Sq D b h)(Z:Tab h):CV 15 #[.slice A a.length u,.slice D b.length l] w h (.tuple #[qv (bW a b a.length),.bool true]):=by
 have d:=((((sS g).aS W).aS O).aB Z);refine go Tryz.func15 [(0,qS A a.length u),(1,qS D b.length l)] rfl (ax (lA 4 44 a6 d (fun F w2 h3 d=>lL d ac (ag (aa d [.c,.v (nV a.length),.c,.v (nV b.length)] ?_)))));have j:((a.length:Int) != (b.length:Int))=false:=Eo oM;have B:=aJ j;refine lB 13 j (ah (cK (ax (lA 6 44 a6 d (fun I w6 Q d=>ag (aa d [.c,.v (nV a.length),.c] (aZ ?_)))))));refine bH _ (CG.loop (fun y Γ M=>∃ (k:Nat)(z:Hp),y=a.length-k/\Γ=[(1,qS D b.length l),(4,pB F),(5,qF),(6,pB I),(15,qS A a.length u),(16,nV a.length),(17,nV k)]/\SS w h M z [⟨I,44,qc (bW a b k)⟩,⟨F,44,[qF,uV 0,eS,uV 0,eS]⟩] [] [fun z=>Tab z,Sq D b,Sq A a]/\k<=a.length) _ ⟨0,Q,rfl,rfl,d.to _ _,My _⟩ ?_);rintro _ _ w8 ⟨k,h9,H,rfl,d,hk⟩;have U:k*(K+L+1)<=a.length*(K+L+1):=Nat.mul_le_mul_right _ hk;have p:LQ (100000000-K-L-1) (bW a b k):=(LQ.dot ha e k hk).mono oM;refine ax ?_;cases x:(decide ((k:Int)<(a.length:Int)))
 .
  have X:=oF x;refine lB 18 x (ag (dD (CG.exit ?_)))
  show CG _ _ _ _ _ _ _ _
  exact aa d [.o (qv (bW a b k)) 0 0 5] (lP 1 0 (qc (bW a b k)) d (fun _ d=>lL d ac (ae d [(1,0,5)] (.tuple #[qv (bW a b k),qT]) (by rw[show a.length=k by omega]))))
 have X:=oT x;refine lB 18 x (ag (ct (cK (cQ (kZ (aa d ac (lX 20 A a.length u 5 (k:Nat) k ((d.f.r.1).ok oM) ?_)))))));refine lH 21 (qv (a.getD k 0)) d ((d.f.r.1).el k oM) (lA 8 44 a6 d (fun S _ _ d=>lL d ac (lP 0 0 (qc (a.getD k 0)) d (fun _ d=>lN (cR 8 [] mixed d ao ?_)))));refine eO 0 22 [(1,0,5)] (qv (bW a b k)) d (eO 1 23 [(0,0,5)] (qv (a.getD k 0)) d (eV 2 24 (qS D b.length l) (eV 3 25 (nV k) (eX 4 26 D b.length l 5 (k:Nat) k ((d.f.2.1).ok oM) (eH 5 27 (qv (b.getD k 0)) d ((d.f.2.1).el k oM) ?_)))));have J:=LQ.mul (ha k oM) (e k oM);refine au 6 28 d (fun _ _ d=>kP (a.getD k 0) (b.getD k 0) (LQ.mono (ha k oM) oM) (LQ.mono (e k oM) oM) _ _ d.g d.f.1) (fun _ _ d=>?_);have C:=LQ.add p J;refine au 7 29 d (fun _ _ d=>sq (bW a b k) ((a.getD k 0)*(b.getD k 0)) (LQ.mono p oM) (LQ.mono J oM) _ _ d.g d.f.1) (fun _ _ d=>bU d (fun _ V d=>tP 8 1 0 (qc ((bW a b k)+((a.getD k 0)*(b.getD k 0)))) d (fun _ d=>tN (kQ (bp 30 ((k:Nat)+1) (k+1) ?_)))));refine lL d ac (lD ?_);intro a_ Y;replace d:=d.drop 1 0;refine ⟨_,_,?_,⟨k+1,V,rfl,rfl,d.to _ _,oM⟩,Y.to _ kR⟩
 omega
structure Lay where
  k:Int
  W:List (List Rat)
  B:List Rat
def je:Lay:=⟨0,[],[]⟩
abbrev LV:=Int × Value × Value
def HU:LV:=(0,undef,undef)
structure NetL (h:Hp) (ts:List LV) (ls:List Lay):Prop where
  len:ts.length=ls.length
  at_:∀ i,i<ls.length->(ts.getD i HU).1=(ls.getD i je).k/\(∃ A c,∃ us:List Value,(ts.getD i HU).2.1=.slice A us.length c/\us.length<=c/\SlO 1 vc undef h A us/\QVs h us (ls.getD i je).W)/\JR 5 qc 0 h (ts.getD i HU).2.2 (ls.getD i je).B
abbrev Nn (t:List LV)(l:List Lay):Hp->Prop:=fun h_=>NetL h_ t l
structure RNetL (h:Hp) (ts:List LV) (ls:List Lay):Prop where
  len:ts.length=ls.length
  at_:∀ i,i<ls.length->(ts.getD i HU).1=(ls.getD i je).k/\(∃ A c,∃ us:List Value,(ts.getD i HU).2.1=.slice A us.length c/\us.length<=c/\SlO 1 vc undef h A us/\RVs h us (ls.getD i je).W) /\
    (∃ A c,∃ rs:List RT,(ts.getD i HU).2.2=.slice A rs.length c/\rs.length<=c/\SlO 3 fX gQ h A rs/\RTs h rs (ls.getD i je).B)
abbrev Rn (t:List LV)(l:List Lay):Hp->Prop:=fun h_=>RNetL h_ t l
def AB (l:List Rat):Prop:=∀ q∈l,∃ z,q=Hn z
structure LayMk (L:Lay) (kq:Nat) (r c:Nat):Prop where
  k:L.k=(kq:Int)
  rows:L.W.length=r
  row:∀ q∈L.W,q.length=c/\AB q
  bl:L.B.length=r
  bs:AB L.B
theorem Bw (A:Z9)(i:Nat)(e:List Int)(L:e.length<=9223372036854775807)(hz:nh e)(a at_:Nat)(ha:at_<=e.length)(w:World)(h:Hp)(g:G w h)(y:Own w a 73 [.slice A e.length i,nV at_])(C:h[a]?=some be)(D:Si A e h):Calls Tryz.prog 47 #[pB a] w (eW a w h fun v w' _=>∃ (z:Int)(at2:Nat),v=iV z/\at2<=e.length/\(-9223372036854775808<=z/\z<=9223372036854775807)/\Own w' a 73 [.slice A e.length i,nV at2]):=by
 have d:UpM [a] w h w h:=UpM.refl g;obtain ⟨wz,u,b⟩:=SS.at_ g y C;replace b:=b.aS D;refine go Tryz.func47 [(0,pB a)] rfl (aa b ac (ag (cQ (cR 10 [] mixed b ao ?_))));refine eV 0 3 (pB a) (eV 1 4 (pB a) (eV 2 5 (qP a 1) (eO 3 6 [(0,1,1)] (nV at_) b (eV 4 7 (pB a) (eV 5 8 (pB a) (eV 6 9 (pB a) (eO 7 10 [(0,0,1)] (qS A e.length i) b (eV 8 11 (nV e.length) ?_))))))));cases j:(decide ((e.length:Int)<=(at_:Int)))
 .
  have l:=oF j;refine eB 9 12 j (j7 b (fun w2 K x b=>?_));replace d:=d.trans (x.m _);refine tN (dD (cK (aa b [.c,.v (pB a),.v (qP a 1),.o (nV at_) 0 1 1] (bp 17 ((at_:Nat)+1) (at_+1) ?_))));refine lL b [.v (pB a),.v (qP a 1)] (nC 0 1 ([nV (at_+1)]) b (fun J F b=>?_));replace d:=d.put F (sy.2 rfl) b.g;refine ag (cR 11 [] mixed b ao ?_);refine eV 0 20 (pB a) (eV 1 21 (pB a) (eV 2 22 (pB a) (eO 3 23 [(0,0,1)] (qS A e.length i) b (eV 4 24 (pB a) (eV 5 25 (pB a) (eV 6 26 (qP a 1) (eO 7 27 [(0,1,1)] (nV (at_+1)) b (jG 8 28 ((at_+1:Nat)-1) ((at_+1)-1) (eX 9 29 A e.length i 1 ((at_+1)-1:Nat) ((at_+1)-1) ((b.f.1).ok oM) (eH 10 30 (iV (e.getD ((at_+1)-1) 0)) b ((b.f.1).el ((at_+1)-1) oM) (j7 b (fun H I B b=>?_))))))))))));replace d:=d.trans (B.m _);exact tV 11 2 (iV (e.getD ((at_+1)-1) 0)) (tN (kX (b.retM d [] (iV (e.getD ((at_+1)-1) 0)) ⟨e.getD ((at_+1)-1) 0,(at_+1),rfl,by omega,hz _,b.own 0⟩)))
 have l:=oT j;refine eB 9 12 j (j7 b (fun M _ p b=>?_));replace d:=d.trans (p.m _);exact tN (ct (aa b ac (lN (kX (b.retM d [] (iV 0) ⟨0,at_,rfl,by omega,⟨by decide,by decide⟩,b.own 0⟩)))))
structure LayFit (L:Lay):Prop where
  rl:L.W.length<=1000000
  rls:∀ i,i<L.W.length->(L.W.getD i []).length<=1000000
  rf:∀ i,i<L.W.length->∀ j,j<(L.W.getD i []).length->LQ 100000000 ((L.W.getD i []).getD j 0)
  bl:L.B.length<=1000000
  bf:∀ i,i<L.B.length->LQ 100000000 (L.B.getD i 0)
structure Stp where
  op:Int
  a:Int
  b:Int
  n:Int
  q:Rat
abbrev sX (p:Stp):Value:=.agg #[iV p.op,iV p.a,iV p.b,iV p.n,.bool (af p.q.num),uV (lo (ab p.q.num)),.string (hi (ab p.q.num)),uV (lo (qd p.q)),.string (hi (qd p.q))]
abbrev sC (p:Stp):List Value:=[iV p.op,iV p.a,iV p.b,iV p.n,.bool (af p.q.num),uV (lo (ab p.q.num)),.string (hi (ab p.q.num)),uV (lo (qd p.q)),.string (hi (qd p.q))]
abbrev sW (o a b n:Int)(q:Rat):Value:=.agg #[iV o,iV a,iV b,iV n,.bool (af q.num),uV (lo (ab q.num)),.string (hi (ab q.num)),uV (lo (qd q)),.string (hi (qd q))]
abbrev sG (o a b n:Int)(q:Rat):List Value:=[iV o,iV a,iV b,iV n,.bool (af q.num),uV (lo (ab q.num)),.string (hi (ab q.num)),uV (lo (qd q)),.string (hi (qd q))]
def fe:Stp:=⟨0,0,0,0,0⟩
abbrev gP (l:List Stp)(k:Nat):Stp:=l.getD k fe
def fu (op:Int):Int :=
  if op=1\/op=2 then 0 else if op=7\/op=8\/op=9\/op=10\/op=11 then 1
  else if op=3\/op=4\/op=5\/op=6\/op=12\/op=13 then 2 else -1
theorem aE (op:Int):(fu op=0/\(op=1\/op=2))\/(fu op=1/\(op=7\/op=8\/op=9\/op=10\/op=11))\/(fu op=2/\(op=3\/op=4\/op=5\/op=6\/op=12\/op=13))\/(fu op = -1/\(op<1\/13<op)):=by
 unfold fu;split
 ·exact .inl ⟨rfl,by assumption⟩
 ·split
  ·exact .inr (.inl ⟨rfl,by assumption⟩)
  ·split
   ·exact .inr (.inr (.inl ⟨rfl,by assumption⟩))
   ·exact .inr (.inr (.inr ⟨rfl,by omega⟩))
def o8 (i:Nat)(tt:Int)(used:Prop):Prop:=(used->0<=tt/\tt<i)/\(¬used->tt=0)
def pg (inp:Int)(i:Nat)(s:Stp):Prop :=
  0<=fu s.op/\o8 i s.a (0<fu s.op)/\o8 i s.b (1<fu s.op)/\(s.op≠1->s.q.num=0) /\
  (s.op=2->0<=s.n/\s.n<inp)/\(s.op=8 -> -12<=s.n/\s.n<=12)/\(s.op≠2->s.op≠8->s.n=0)
instance (i:Nat) (tt:Int) (u:Prop) [Decidable u]:Decidable (o8 i tt u):=by unfold o8;infer_instance
instance (inp:Int) (i:Nat) (s:Stp):Decidable (pg inp i s):=by unfold pg;infer_instance
def Ak (n:Nat)(os:List Int):Prop:=∀ i,i<os.length->0<=os.getD i 0/\os.getD i 0<n
instance (n:Nat) (os:List Int):Decidable (Ak n os):=by unfold Ak;infer_instance
structure RSt where
  op:Int
  a:Int
  b:Int
  n:Int
  t:RT
def KN:RSt:=⟨0,0,0,0,gQ⟩
structure OSt where
  op:Int
  a:Int
  b:Int
  n:Int
  q:Rat
  has:Bool
def DH:OSt:=⟨0,0,0,0,0,false⟩
def ol (o:OSt):Nat:=if o.has then o.q.den else 0
def OSt.stp (o:OSt):Stp:=⟨o.op,o.a,o.b,o.n,o.q⟩
abbrev gO (s:List OSt)(k:Nat):OSt:=s.getD k DH
abbrev mO (s:List OSt):List Stp:=s.map OSt.stp
theorem DI {o:OSt}:0<(lim (ol o)).length↔o.has=true:=by
 rw[bT];unfold ol;have:=o.q.den_pos;cases o.has<;>simp;omega
theorem Ee {o:OSt}(h:o.has=true):ol o=o.q.den:=by unfold ol;rw[h];rfl
structure RS1 (h:Hp) (t:RSt) (o:OSt):Prop where
  op:t.op=o.op
  a:t.a=o.a
  b:t.b=o.b
  n:t.n=o.n
  q:RP h (C7 t.t) o.q.num (ol o)
  z:o.has=false->o.q=0
structure RSs (h:Hp) (ts:List RSt) (os:List OSt):Prop where
  len:ts.length=os.length
  at_:∀ i,i<os.length->RS1 h (ts.getD i KN) (os.getD i DH)
structure OSm (o:OSt):Prop where
  op : -1000<=o.op/\o.op<=1000
  a : -1000<=o.a/\o.a<=1000
  b : -1000<=o.b/\o.b<=1000
  n : -1000<=o.n/\o.n<=1000
  q:LQ 1 o.q
def J5 (os:List OSt):Prop:=∀ i,i<os.length->OSm (os.getD i DH)
structure LayLen (L:Lay):Prop where
  rl:L.W.length<=1000000
  rls:∀ i,i<L.W.length->(L.W.getD i []).length<=1000000
  bl:L.B.length<=1000000
structure Mat (W:List (List Rat)) (r c:Nat):Prop where
  rows:W.length=r
  rpos:0<r
  cpos:0<c
  row:∀ i,i<r->(W.getD i []).length=c
structure Net3 (ls:List Lay) (d:Nat->Nat):Prop where
  len:1<=ls.length/\ls.length<=4
  first:d 0<=20
  lay:∀ i,i<ls.length->Mat (ls.getD i je).W (d (i+1)) (d i)/\(ls.getD i je).B.length=d (i+1)/\d (i+1)<=12/\((ls.getD i je).k=1\/(ls.getD i je).k=2\/(ls.getD i je).k=3)
theorem qo (u:Rat):0<((1:Int):Rat)+cH u:=by
 have h:(0:Rat)<=cH u:=by rw[<-Rat.num_nonneg,pE];omega
 have h1:(0:Rat)<((1:Int):Rat):=by decide
 grind
theorem l8 (u:Rat):(((1:Int):Rat)+cH u).num≠0:=by
 have:=qo u;intro e;have e2:((1:Int):Rat)+cH u=0:=by rw[<-Nz];exact e
 rw[e2] at this;exact absurd this kD
def K0 (k:Int)(u:Rat):Rat:=if k=2 then maxR u 0 else if k=3 then u/(((1:Int):Rat)+cH u) else u
def Kd (L:Lay)(x:List Rat):List Rat:=(List.range L.W.length).map fun i=>K0 L.k (bW (L.W.getD i []) x x.length+L.B.getD i 0)
def Cq (ls:List Lay)(xs:List Rat):Nat->List Rat
  | 0=>xs
  | k+1=>Kd (ls.getD k je) (Cq ls xs k)
abbrev gD (ls:List Lay)(xs:List Rat)(k r:Nat):Rat:=bW ((ls.getD k je).W.getD r []) (Cq ls xs k) (Cq ls xs k).length
abbrev gS (ls:List Lay)(xs:List Rat)(k r:Nat):Rat:=gD ls xs k r+((ls.getD k je).B).getD r 0
structure NetB (ls:List Lay) (xs:List Rat):Prop where
  w:∀ k i j,LQ 1000000 (((ls.getD k je).W.getD i []).getD j 0)
  b:∀ k i,LQ 1000000 ((ls.getD k je).B.getD i 0)
  x:∀ k,k<=ls.length->∀ j,LQ 1000000 ((Cq ls xs k).getD j 0)
theorem RQ.eq {h:Hp}{v:Value}{p q:Rat}(x:RQ h v p)(e:p=q):RQ h v q:=by subst e;exact x
theorem mY {n:Nat}:∀ j,(zY n (0:Rat)).getD j 0=0:=fun j=>by
 rw[LM,List.getElem?_replicate];split<;>rfl
structure LaySz (L:Lay):Prop where
  rl:L.W.length<=8
  rls:∀ i,(L.W.getD i []).length<=8
  bl:L.B.length<=8
  w:∀ i j,LQ 1 ((L.W.getD i []).getD j 0)
  b:∀ i,LQ 1 (L.B.getD i 0)
  b4:L.B.length<=4
  w4:(L.W.getD 0 []).length<=4
theorem iE {k:Nat}(h:1<=k):LQ k 0:=(LQ.lit (z:=0) kD).mono h
theorem eo {α:Type}{l:List α}{n i:Nat}{d x:α}(h:n<l.length):(l.set n x).getD i d=if i=n then x else l.getD i d:=by
 split
 ·rename_i e;subst e;simp[h]
 ·rename_i e;rw[LM,tz (Ne.symm e),<-LM]
structure LayS4 (L:Lay):Prop where
  rl:L.W.length<=4
  rls:∀ i,(L.W.getD i []).length<=4
  bl:L.B.length<=4
  w:∀ i j,LQ 1 ((L.W.getD i []).getD j 0)
  b:∀ i,LQ 1 (L.B.getD i 0)
theorem db {α:Type}{l:List α}{i:Nat}{d:α}(h:l.length<=i):l.getD i d=d:=by rw[LM,s9 h];rfl
def ck (a:Rat):Nat->Rat
  | 0=>((1:Int):Rat)
  | k+1=>ck a k*a
theorem i7 {a:Rat}(h:a≠0):∀ k,ck a k≠0
 | 0=>by show ((1:Int):Rat)≠0;decide
 | k+1=>by show ck a k*a≠0;have:=i7 h k;grind
def fq (a:Rat)(n:Int):Rat:=if 0<=n then ck a n.natAbs else ((1:Int):Rat)/ck a n.natAbs
def nk (a b:Rat):Rat:=if b<a then b else a
def kO (op n:Int)(q a b:Rat):Rat :=
  if op=1 then q else if op=3 then a+b else if op=4 then a-b else if op=5 then a*b else if op=6 then a/b else if op=7 then -a
  else if op=8 then fq a n else if op=9 then cH a else if op=10 then maxR a 0 else if op=11 then a/(cH a+((1:Int):Rat)) else if op=12 then maxR a b else nk a b
def rE (op n:Int)(a b:Rat):Prop:=(op=6->b≠0)/\(op=8->n<0->a≠0)
instance (op n:Int) (a b:Rat):Decidable (rE op n a b):=by unfold rE;infer_instance
def x7 (op:Int)(a b:Rat):Prop:=(op=9\/op=10)/\a=0\/(op=12\/op=13)/\a=b
instance (op:Int) (a b:Rat):Decidable (x7 op a b):=by unfold x7;infer_instance
def Aa (op n:Int)(a b:Rat):Rat :=
  if op=3 then ((1:Int):Rat) else if op=4 then ((1:Int):Rat) else if op=5 then b else if op=6 then ((1:Int):Rat)/b else if op=7 then -((1:Int):Rat)
  else if op=8 then (if n=0 then 0 else fq a (n-1)*((n:Int):Rat)) else if op=9 then ((a.num.sign:Int):Rat) else if op=10 then ((max a.num.sign 0:Int):Rat)
  else if op=11 then (((1:Int):Rat)/(((1:Int):Rat)+cH a))*(((1:Int):Rat)/(((1:Int):Rat)+cH a))
  else if op=12 then (if b<a then ((1:Int):Rat) else 0) else if op=13 then (if b<a then 0 else ((1:Int):Rat)) else 0
def AP (op:Int)(a b:Rat):Rat :=
  if op=3 then ((1:Int):Rat) else if op=4 then -((1:Int):Rat) else if op=5 then a else if op=6 then -(a*(((1:Int):Rat)/b)*(((1:Int):Rat)/b))
  else if op=12 then (if b<a then 0 else ((1:Int):Rat)) else if op=13 then (if b<a then ((1:Int):Rat) else 0) else 0
theorem ib (z:Int) : -1<=z.sign/\z.sign<=1:=by
 rcases M0 z 0 with h|h|h
 ·rw[M1 h];decide
 ·rw[h];decide
 ·rw[M3 h];decide
theorem GH {a:Rat}(h:a≠0):a.num≠0:=fun e=>h (by rw[<-Nz];exact e)
theorem i4 {a:Rat}{K:Nat}(h:LQ K a):∀ k,LQ (k*K+1) (ck a k)
 | 0=>LQ.mono (k:=1) (LQ.lit (z:=1) kD) oM
 | k+1=>((i4 h k).mul h).mono (by rw[Nat.add_mul];omega)
theorem il {a b:Rat}:cZ a b=0↔a=b:=by
 constructor
 ·intro h
  have h1:¬a<b:=fun x=>by have:=iX.2 x;omega
  have c:¬b<a:=fun x=>by have:=jb.2 x;omega
  grind
 ·intro h;subst h
  have h1:¬cZ a a<0:=fun x=>by have:=iX.1 x;grind
  have c:¬cZ a a>0:=fun x=>by have:=jb.1 x;grind
  omega
def J0 (op n:Int)(q a b:Rat):Rat:=if rE op n a b then kO op n q a b else 0
theorem j6 {a b:List Rat}(h:a.length=b.length)(hv:∀ j,a.getD j 0=b.getD j 0):a=b:=by
 refine List.ext_getElem h (fun i h1 c=>?_);have:=hv i
 simpa [h1,c] using this
theorem IK (op:Int)(w:World)(h:Hp)(g:G w h):CV 105 #[iV op] w h (iV (fu op)):=by
 have a:=sS g;refine go Tryz.func105 [(0,iV op)] rfl (aa a ac (ag (aa a ac (aZ (cQ (ax ?_))))));cases i:((op:Int) == (1:Int))
 .
  have z:=aj i;refine lB 5 i (lL a ac (ah (kQ ?_)));cases j:((op:Int) == (2:Int))
  .
   have C:=aj j;refine lB 6 j (lL a ac (ah (cQ (ax ?_))));cases d:((op:Int) == (7:Int))
   .
    have D:=aj d;refine lB 8 d (lL a ac (ah (ax ?_)));cases b:((op:Int) == (8:Int))
    .
     have p:=aj b;refine lB 9 b (lL a ac (ah (ax ?_)));cases e:((op:Int) == (9:Int))
     .
      have B:=aj e;refine lB 10 e (lL a ac (ah (ax ?_)));cases o:((op:Int) == (10:Int))
      .
       have u:=aj o;refine lB 11 o (lL a ac (ah (kQ ?_)));cases l:((op:Int) == (11:Int))
       .
        have F:=aj l;refine lB 12 l (lL a ac (ah (cQ (ax ?_))));cases c:((op:Int) == (3:Int))
        .
         have y:=aj c;refine lB 14 c (lL a ac (ah (ax ?_)));cases f:((op:Int) == (4:Int))
         .
          have x:=aj f;refine lB 15 f (lL a ac (ah (ax ?_)));cases J:((op:Int) == (5:Int))
          .
           have L:=aj J;refine lB 16 J (lL a ac (ah (ax ?_)));cases K:((op:Int) == (6:Int))
           .
            have Q:=aj K;refine lB 17 K (lL a ac (ah (ax ?_)));cases I:((op:Int) == (12:Int))
            .
             have O:=aj I;refine lB 18 I (lL a ac (ah (kQ ?_)));cases H:((op:Int) == (13:Int))
             .
              have M:=aj H;exact lB 19 H (lL a ac (ah (cK (aa a ac (ae a [] (iV (-1)) (congrArg (Value.int .i64) (by have:=aE op;omega)))))))
             have M:=eq_of_beq H;exact lB 19 H (lL a ac (am (aa a ac (ae a [] (iV 2) (congrArg (Value.int .i64) (by have:=aE op;omega))))))
            have O:=eq_of_beq I;exact lB 18 I (lL a ac (am (cK (ct (aa a ac (ae a [] (iV 2) (congrArg (Value.int .i64) (by have:=aE op;omega))))))))
           have Q:=eq_of_beq K;exact lB 17 K (lL a ac (am (cK (ct (aa a ac (ae a [] (iV 2) (congrArg (Value.int .i64) (by have:=aE op;omega))))))))
          have L:=eq_of_beq J;exact lB 16 J (lL a ac (am (cK (ct (aa a ac (ae a [] (iV 2) (congrArg (Value.int .i64) (by have:=aE op;omega))))))))
         have x:=eq_of_beq f;exact lB 15 f (lL a ac (am (cK (ct (aa a ac (ae a [] (iV 2) (congrArg (Value.int .i64) (by have:=aE op;omega))))))))
        have y:=eq_of_beq c;exact lB 14 c (lL a ac (am (cK (ct (aa a ac (ae a [] (iV 2) (congrArg (Value.int .i64) (by have:=aE op;omega))))))))
       have F:=eq_of_beq l;exact lB 12 l (lL a ac (am (aa a ac (ae a [] (iV 1) (congrArg (Value.int .i64) (by have:=aE op;omega))))))
      have u:=eq_of_beq o;exact lB 11 o (lL a ac (am (cK (ct (aa a ac (ae a [] (iV 1) (congrArg (Value.int .i64) (by have:=aE op;omega))))))))
     have B:=eq_of_beq e;exact lB 10 e (lL a ac (am (cK (ct (aa a ac (ae a [] (iV 1) (congrArg (Value.int .i64) (by have:=aE op;omega))))))))
    have p:=eq_of_beq b;exact lB 9 b (lL a ac (am (cK (ct (aa a ac (ae a [] (iV 1) (congrArg (Value.int .i64) (by have:=aE op;omega))))))))
   have D:=eq_of_beq d;exact lB 8 d (lL a ac (am (cK (ct (aa a ac (ae a [] (iV 1) (congrArg (Value.int .i64) (by have:=aE op;omega))))))))
  have C:=eq_of_beq j;exact lB 6 j (lL a ac (am (aa a ac (ae a [] (iV 0) (congrArg (Value.int .i64) (by have:=aE op;omega))))))
 have z:=eq_of_beq i;exact lB 5 i (lL a ac (am (cK (ct (aa a ac (ae a [] (iV 0) (congrArg (Value.int .i64) (by have:=aE op;omega))))))))
theorem El (z:Int)(A:Z9)(c:Nat)(w:World)(h:Hp)(g:G w h)(l:S3 A (lim (ab z)) h):CV 146 #[.agg #[.bool (af z),.slice A ((lim (ab z)).length) c]] w h (iV z.sign):=by
 have a:=((sS g).aS l);have i:0<(lim (ab z)).length↔0<ab z:=bT
 unfold ab at i
 refine go Tryz.func146 [(0,.agg #[.bool (af z),qS A ((lim (ab z)).length) c])] rfl (ax (lA 1 26 ([.bool (af z),qS A ((lim (ab z)).length) c]) a (fun j w2 p a=>lL a ac (ag (kZ (aa a [.v (qP j 1),.o (qS A ((lim (ab z)).length) c) 0 1 1,.v (nV ((lim (ab z)).length))] ?_))))));cases d:((((lim (ab z)).length:Nat):Int) == (0:Int))
 .
  have f:=aj d;refine lB 7 d (lL a ac (ah (aa a [.v (pB j),.o (.bool (af z)) 0 0 1,.c] (lN ?_))));cases b:(af z)
  .
   try rw[b] at a
   try rw[b]
   have e:=a8 b;exact dD (cK (aa a ac (ae a [] (iV 1) (congrArg (Value.int .i64) (by first|(rw[show z=0 by (unfold ab at *;omega)];rfl)|exact (M1 oM).symm|exact (M3 (by unfold ab at *;omega)).symm)))))
  try rw[b] at a
  try rw[b]
  have e:=bj b;exact ct (aa a ac (ae a [] (iV (-1)) (congrArg (Value.int .i64) (by first|(rw[show z=0 by (unfold ab at *;omega)];rfl)|exact (M1 oM).symm|exact (M3 (by unfold ab at *;omega)).symm))))
 have f:=eq_of_beq d;exact lB 7 d (lL a ac (am (aa a ac (ae a [] (iV 0) (congrArg (Value.int .i64) (by first|(rw[show z=0 by (unfold ab at *;omega)];rfl)|exact (M1 oM).symm|exact (M3 (by unfold ab at *;omega)).symm))))))
theorem KE (z:Int)(A:Z9)(c n:Nat)(D:Z9)(d:Nat)(x:(lim (ab z)).length<=c)(p:(lim n).length<=d)(w:World)(h:Hp)(g:G w h)(i:S3 A (lim (ab z)) h)(b:S3 D (lim n) h):CV 115 #[.agg #[.bool (af z),.slice A ((lim (ab z)).length) c,.slice D ((lim n).length) d]] w h (iV z.sign):=by
 have a:=(((sS g).aS i).aS b);exact go Tryz.func115 [(0,.agg #[.bool (af z),qS A ((lim (ab z)).length) c,qS D ((lim n).length) d])] rfl (ax (lA 1 28 ([.bool (af z),qS A ((lim (ab z)).length) c,qS D ((lim n).length) d]) a (fun e w2 u a=>lL a ac (aG (lL a [.v (pB e),.o (.agg #[.bool (af z),qS A ((lim (ab z)).length) c]) 0 0 2] (aq 5 a (El z A c _ _ a.g a.f.2.1) (fun j l a=>lL a ac (ae a [] (iV z.sign) rfl))))))))
theorem E8 (z:Int)(A:Z9)(c n:Nat)(D:Z9)(d:Nat)(B:(lim (ab z)).length<=c)(u:(lim n).length<=d)(w:World)(h:Hp)(g:G w h)(C:S3 A (lim (ab z)) h)(l:S3 D (lim n) h):CV 106 #[.agg #[.bool (af z),.slice A ((lim (ab z)).length) c,.slice D ((lim n).length) d]] w h (.bool (decide (n=0\/z=0))):=by
 have a:=(((sS g).aS C).aS l);have y:0<(lim n).length↔0<n:=bT;refine go Tryz.func106 [(0,.agg #[.bool (af z),qS A ((lim (ab z)).length) c,qS D ((lim n).length) d])] rfl (ax (lA 1 28 ([.bool (af z),qS A ((lim (ab z)).length) c,qS D ((lim n).length) d]) a (fun x w2 I a=>lL a ac (aG (lL a [.v (qP x 2),.o (qS D ((lim n).length) d) 0 2 1,.v (nV ((lim n).length))] ?_)))));cases b:((((lim n).length:Nat):Int) == (0:Int))
 .
  have i:=aj b;refine lB 6 b (lL a [.c,.o (.agg #[.bool (af z),qS A ((lim (ab z)).length) c,qS D ((lim n).length) d]) 0 0 3] (aq 9 a (KE z A c n D d B u _ _ a.g a.f.2.1 a.f.1) (fun H F a=>?_)));have p:z.sign=0↔z=0:=Int.sign_eq_zero_iff_zero;cases e:((z.sign:Int) == (0:Int))
  .
   have j:=aj e;exact lB 10 e (lL a [.v qF,.c] (ae a [] qF (congrArg Value.bool (decide_eq_false oM).symm)))
  have j:=eq_of_beq e;exact lB 10 e (lL a [.v qT,.c] (ae a [] qT (congrArg Value.bool (decide_eq_true oM).symm)))
 have i:=eq_of_beq b;refine lB 6 b (lL a ac (lG 8 ?_));exact lG 9 (lG 10 (lL a [.v qT,.c] (ae a [] qT (congrArg Value.bool (decide_eq_true oM).symm))))
end Go.Proofs.YthfkmhgnndmblaaGreatDoor
