/- Laws of this claim, part 3. -/
import Derived.Test.YtcbgbcghmndlmaaGreatDoorQi0
import Derived.Test.YtcbgbcghmndlmaaGreatDoorQi1
set_option maxRecDepth 100000
set_option maxHeartbeats 4000000
namespace Go.Proofs.YtcbgbcghmndlmaaGreatDoor
open Int renaming divExact_eq_ediv -> I2, dvd_refl -> IZ, dvd_trans -> IW, eq_ofNat_of_zero_le -> Iv, lt_trichotomy -> IS, mul_ediv_cancel_left -> IR, mul_neg -> Iw, mul_neg_of_neg_of_pos -> Jd, mul_pos -> Je, natAbs_add_le -> Ja, natAbs_dvd -> IY, natAbs_mul -> IP, natAbs_natCast -> IQ, natAbs_neg -> Jb, natCast_dvd_natCast -> IX, neg_mul -> Ix, neg_neg -> Iy, sign_eq_neg_one_of_neg -> Iz, sign_eq_one_of_pos -> IA
open List renaming drop_eq_nil_of_le -> Ii, drop_zero -> yx, flatMap_cons -> yv, length -> IJ, length_drop -> HT, length_set -> Ic, length_take -> Af, mem_cons -> g4, mem_cons_of_mem -> Iu, mem_cons_self -> Is, mem_singleton -> vl, replicate -> yL, set_set -> Ip, take_length -> yz, take_of_length_le -> G1, take_set -> IG, toArray -> IL
open Nat renaming add_sub_cancel -> H4, add_zero -> yw, divExact_eq_div -> I3, div_eq_of_lt -> zY, div_le_self -> zy, eq_of_mul_eq_mul_left -> IC, eq_zero_or_pos -> yW, gcd -> ID, gcd_comm -> Io, gcd_dvd_left -> IU, gcd_dvd_right -> IV, gcd_le_left -> IK, gcd_le_right -> I9, gcd_mul_left -> IF, gcd_pos_of_pos_right -> IT, gcd_zero_right -> IN, le_mul_of_pos_left -> II, le_of_eq -> Ir, le_of_lt -> IM, le_total -> IE, le_trans -> e4, lt_of_lt_of_le -> e5, lt_or_ge -> ep, min_eq_left -> Ag, min_eq_right -> HA, mod_eq_of_lt -> yN, mod_lt -> yO, mul_add -> z7, mul_assoc -> z8, mul_comm -> z2, mul_div_cancel_left -> IH, mul_one -> Ga, mul_zero -> Ah, pow_add -> A4, pow_le_pow_right -> Ay, pow_mul -> A7, pow_succ -> z1, pow_zero -> Il, sub_le -> IB, two_pow_pos -> Aw, zero_add -> yH, zero_le -> In, zero_mod -> Ie
open Rat renaming add -> I0, den_intCast -> I6, maybeNormalize -> I1, mul -> I4, neg_den -> I8, neg_num -> I7, num_intCast -> I5, sub_eq_add_neg -> Jc
open Go.RowKit
open Go.RowKit Go.Shelf
theorem DX (b:Nat)(hl:(wds b).length<=1000000000)(J:18446744073709551616<=b)(w:World)(h:Hp)(g:G w h):CV 70 #[nv 0,nv b] w h (nv (0+b)):=by
 have a:=sS g;have h2l:=ct J;refine go Tryz.func70 [(0,nv 0),(1,nv b)] rfl (aD (lA 2 25 (nc 0) a (fun F w2 h3 a=>lA 3 25 (nc b) a (fun y w5 h6 a=>lA 4 25 ([uV 0,eS]) a (fun C w8 h9 a=>ag (ab a [.v (qP F 1),.o (.string (hi 0)) 2 1 1] (lV 14 qT ?_ (hr:=rb kR (iR rfl)))))))));refine lL a [.c,.v (qP y 1),.o (.string (hi b)) 1 1 1] (lV 18 qF ?_ (hr:=rb kR (g8 (em J))));refine lL a [.v qF] (am (cK (cQ ?_)));obtain ⟨H,hK_⟩:∃ H,H=w8.heap.size:=⟨_,rfl⟩;have bd:C<H:=by rw[hK_];exact ej a 0
 have z:y<H:=by rw[hK_];exact ej a 1
 have D:F<H:=by rw[hK_];exact ej a 2
 refine vL ⟨[],some (H,[])⟩ 0 mixed ?_;have bn:=a.g.size;replace a:=a.drew;have x:=Ir hK_;refine zO 0 36 [(2,0,2)] (nv 0) rfl x a (fun p U=>by obtain rfl:=vl.1 U;exact D) (zO 2 38 [(1,0,2)] (nv b) rfl x a (fun p U=>by obtain rfl:=vl.1 U;exact z) (qA 1 37 (j3 _ _ a.g) rfl x ?_));rintro _ _ _ u12 x rfl;replace a:=a.step u12;refine qA 3 39 (fd b oM oM _ _ a.g) rfl x ?_;rintro _ _ _ X x ⟨e,rfl,M,I,bq⟩;obtain ⟨zj,a,-,-⟩:=a.take X M I;replace a:=a.to [⟨e,23,(wds b).flatMap aj⟩,⟨C,25,[uV 0,eS]⟩,⟨y,25,nc b⟩,⟨F,25,nc 0⟩] [];refine zV 4 7 (sZ) (zV 5 8 (qS (sB e) ((wds b).length) ((wds b).length)) (tN (cQ (ab a [.c,.v (iV 0),.c,.v (nV ((wds b).length))] ?_))));have ⟨zf,W⟩:=dT (p:=(0:Int)<(((wds b).length:Nat):Int)) oM;refine lB 44 zf (ar (kQ (lL a ll (aK (lL a ae (ag (ab a [.c,.v (nV ((wds b).length)),.c] (a7 ?_))))))));refine bY _ (CG.loop (fun Y Γ w_=>∃ (i:Nat)(l:List Nat)(j:Nat)(h_:Hp),Y=(wds b).length-i/\Γ=[(4,pB C),(7,qS (sB e) ((wds b).length) ((wds b).length)),(8,sZ),(48,nV ((wds b).length)),(49,nV i),(9,mV j)]/\SS w h w_ h_ [⟨e,23,(l).flatMap aj⟩,⟨C,25,[uV 0,eS]⟩,⟨y,25,nc b⟩,⟨F,25,nc 0⟩] [] []/\i<=(wds b).length/\l.length=(wds b).length/\Wd l/\j<=1/\ak 18446744073709551616 l+18446744073709551616^i*j=b+ak 18446744073709551616 (([]:List Nat).take i)) _ ⟨0,wds b,0,zj,rfl,rfl,a.to _ _,In _,rfl,Wd.wds _,oM,(by have hx_:ak 18446744073709551616 (wds b)=b:=aJ _;rw[hx_];simp[ak])⟩ ?_);rintro _ _ _ ⟨i,l,j,zk,b0,rfl,a,hi,hll,O,hcy,inv⟩;have hlk:=O.get i;have hyk:=Wd.get (l:=[]) Dg.nil i;refine aD ?_;cases S:(decide ((i:Int)<(((wds b).length:Nat):Int)))
 .
  have zd:=oF S;refine lB 50 S (ag (cD (CG.exit ?_)))
  show CG _ _ _ _ _ _ _ _
  refine cQ (aD ?_);have B:=inv;rw[G1 (show ([]).length<=i by first|omega|(simp;done)|(simp;omega))] at B
  rw[show i=l.length by omega] at B
  have hE_:([]:List Nat)=[]:=rfl;replace B:ak 18446744073709551616 l+18446744073709551616^l.length*j=(0+b):=by rw[B];simp[ak]
  refine lL a ae ?_;cases Q:((j:Int) != (0:Int))
  .
   have ze:=aI Q;refine lB 75 Q (am (cK (aD ?_)));obtain ⟨_,a,K,bz,bf⟩:=a.pub 0;replace a:=(a.to [⟨C,25,[uV 0,eS]⟩,⟨y,25,nc b⟩,⟨F,25,nc 0⟩] []).aS (SlO.of_flat (sz:=1) (f:=aj) (d:=0) (b:=e) (o:=0) (l:=l) (fun _=>rfl) K);exact lL a ae (au 81 a (cJ (sB e) ((wds b).length) (l) ((wds b).length) ((0+b)) (by first|rfl|assumption|(simp;done)|(simp;omega)|omega) (O) (by rw[show j=0 by omega,Ah,yw] at B;exact B) sM sM _ _ a.g a.f.1) (fun _ _ a=>lP 0 0 (nc (0+b)) a (fun _ a=>ah a [(0,0,2)] (nv (0+b)) rfl)))
  have ze:=aU Q;refine lB 75 Q (ar (kQ (lL a aE (lR 78 23 1 ([mV j]) a (fun zl _ _ a=>Gt 79 0 ((wds b).length) zl l aj 0 j 8 (uV 0) a a.f.1 oM oM (fun zm zn _ _ a bb=>?_))))));replace a:=a.to [⟨C,25,[uV 0,eS]⟩,⟨y,25,nc b⟩,⟨F,25,nc 0⟩] [];exact lL a ae (aK (lL a ae (au 81 a (cJ zm zn (l++[j]) ((wds b).length+1) ((0+b)) (by first|rfl|assumption|(simp;done)|(simp;omega)|omega) (Dg.append O (Dg.one oM)) (by show ak _ (l++[j])=_;rw[dH];show _+_*(j+_*0)=_;rw[Ah,yw];exact B) sM sM _ _ a.g a.f.1) (fun _ _ a=>lP 0 0 (nc (0+b)) a (fun _ a=>ah a [(0,0,2)] (nv (0+b)) rfl)))))
 have zd:=oT S;refine lB 50 S (ag (bZ (cK (cQ (kZ (ab a aE (aK (lL a ae (ag (ab a [.c,.c,.v (iV 0)] ?_))))))))));have ⟨zg,Z⟩:=dF (p:=(i:Int)<(0:Int)) oM;refine lB 55 zg (am (cK (kQ (lL a ll (lX 65 (sB e) ((wds b).length) ((wds b).length) 1 (i:Nat) i rfl ?_)))));refine lQ 66 0 l aj 1 0 i (mV ((l).getD i 0)) a oM (lL a aE ?_);obtain ⟨u,V,bk,bm,bl,L⟩:=dM ((l).getD i 0) 0 j wM wM oM;refine lV 69 (.tuple #[mV u,mV V]) ?_ (hr:=du kR (L _));refine lL a [.c,.v (mV u),.v (mV V)] (lX 72 (sB e) ((wds b).length) ((wds b).length) 1 (i:Nat) i rfl ?_);refine lW 0 l aj 1 i u a oM (fun _ a=>?_);have zi:((l).set i u).length=(wds b).length:=by rw[Ic];exact hll
 replace a:=a.to [⟨e,23,((l).set i u).flatMap aj⟩,⟨C,25,[uV 0,eS]⟩,⟨y,25,nc b⟩,⟨F,25,nc 0⟩] [];refine lL a ae (lN (kQ (bB 73 ((i:Nat)+1) (i+1) ?_)));refine lL a ae (lD ?_);intro a_ ka;refine ⟨_,_,?_,⟨i+1,(l).set i u,V,zk,rfl,rfl,a.to _ _,oM,zi,(O.set _ oM),oM,(fJ oM inv (by first|omega|(have hy0:=ci (l:=([]:List Nat)) (k:=i) (by first|omega|(simp;done));omega)))⟩,ka.to _ kR⟩
 omega
theorem Ep (a:Nat)(hl:(wds a).length<=1000000000)(K:18446744073709551616<=a)(w:World)(h:Hp)(g:G w h):CV 70 #[nv a,nv 0] w h (nv (a+0)):=by
 have e:=sS g;have h2l:=ct K;refine go Tryz.func70 [(0,nv a),(1,nv 0)] rfl (aD (lA 2 25 (nc a) e (fun F w2 h3 e=>lA 3 25 (nc 0) e (fun H w5 h6 e=>lA 4 25 ([uV 0,eS]) e (fun C w8 h9 e=>ag (ab e [.v (qP F 1),.o (.string (hi a)) 2 1 1] (lV 14 qF ?_ (hr:=rb kR (g8 (em K))))))))));refine lL e ae (lG 16 ?_);refine lG 17 (lG 18 (lL e [.v qF] (am (cK (cQ ?_)))));obtain ⟨I,hK_⟩:∃ I,I=w8.heap.size:=⟨_,rfl⟩;have bf:C<I:=by rw[hK_];exact ej e 0
 have z:H<I:=by rw[hK_];exact ej e 1
 have D:F<I:=by rw[hK_];exact ej e 2
 refine vL ⟨[],some (I,[])⟩ 0 mixed ?_;have bq:=e.g.size;replace e:=e.drew;have y:=Ir hK_;refine zO 0 36 [(2,0,2)] (nv a) rfl y e (fun p V=>by obtain rfl:=vl.1 V;exact D) (zO 2 38 [(1,0,2)] (nv 0) rfl y e (fun p V=>by obtain rfl:=vl.1 V;exact z) (qA 1 37 (fd a oM oM _ _ e.g) rfl y ?_));rintro _ _ _ u12 y ⟨j,rfl,O,J,bz⟩;obtain ⟨_,e,-,-⟩:=e.take u12 O J;replace e:=e.to [⟨j,23,(wds a).flatMap aj⟩,⟨C,25,[uV 0,eS]⟩,⟨H,25,nc 0⟩,⟨F,25,nc a⟩] [];refine qA 3 39 (j3 _ _ e.g) rfl y ?_;rintro _ _ zj W y rfl;replace e:=e.step W;refine zV 4 7 (qS (sB j) ((wds a).length) ((wds a).length)) (zV 5 8 (sZ) (tN (cQ (ab e [.c,.v (nV ((wds a).length)),.c,.v (iV 0)] ?_))));have ⟨zf,Y⟩:=dF (p:=(((wds a).length:Nat):Int)<(0:Int)) oM;refine lB 44 zf (am (cK (ab e ae (ag (ab e [.c,.v (nV ((wds a).length)),.c] (a7 ?_))))));refine bY _ (CG.loop (fun Z Γ w_=>∃ (i:Nat)(l:List Nat)(u:Nat)(h_:Hp),Z=(wds a).length-i/\Γ=[(4,pB C),(7,qS (sB j) ((wds a).length) ((wds a).length)),(8,sZ),(48,nV ((wds a).length)),(49,nV i),(9,mV u)]/\SS w h w_ h_ [⟨j,23,(l).flatMap aj⟩,⟨C,25,[uV 0,eS]⟩,⟨H,25,nc 0⟩,⟨F,25,nc a⟩] [] []/\i<=(wds a).length/\l.length=(wds a).length/\Wd l/\u<=1/\ak 18446744073709551616 l+18446744073709551616^i*u=a+ak 18446744073709551616 (([]:List Nat).take i)) _ ⟨0,wds a,0,zj,rfl,rfl,e.to _ _,In _,rfl,Wd.wds _,oM,(by have hx_:ak 18446744073709551616 (wds a)=a:=aJ _;rw[hx_];simp[ak])⟩ ?_);rintro _ _ _ ⟨i,l,u,zk,b2,rfl,e,hi,hll,Q,hcy,inv⟩;have hlk:=Q.get i;have hyk:=Wd.get (l:=[]) Dg.nil i;refine aD ?_;cases U:(decide ((i:Int)<(((wds a).length:Nat):Int)))
 .
  have zd:=oF U;refine lB 50 U (ag (cD (CG.exit ?_)))
  show CG _ _ _ _ _ _ _ _
  refine cQ (aD ?_);have B:=inv;rw[G1 (show ([]).length<=i by first|omega|(simp;done)|(simp;omega))] at B
  rw[show i=l.length by omega] at B
  have hE_:([]:List Nat)=[]:=rfl;replace B:ak 18446744073709551616 l+18446744073709551616^l.length*u=(a+0):=by rw[B];simp[ak]
  refine lL e ae ?_;cases S:((u:Int) != (0:Int))
  .
   have ze:=aI S;refine lB 75 S (am (cK (aD ?_)));obtain ⟨_,e,L,b0,bk⟩:=e.pub 0;replace e:=(e.to [⟨C,25,[uV 0,eS]⟩,⟨H,25,nc 0⟩,⟨F,25,nc a⟩] []).aS (SlO.of_flat (sz:=1) (f:=aj) (d:=0) (b:=j) (o:=0) (l:=l) (fun _=>rfl) L);exact lL e ae (au 81 e (cJ (sB j) ((wds a).length) (l) ((wds a).length) ((a+0)) (by first|rfl|assumption|(simp;done)|(simp;omega)|omega) (Q) (by rw[show u=0 by omega,Ah,yw] at B;exact B) sM sM _ _ e.g e.f.1) (fun _ _ e=>lP 0 0 (nc (a+0)) e (fun _ e=>ah e [(0,0,2)] (nv (a+0)) rfl)))
  have ze:=aU S;refine lB 75 S (ar (kQ (lL e aE (lR 78 23 1 ([mV u]) e (fun zl _ _ e=>Gt 79 0 ((wds a).length) zl l aj 0 u 8 (uV 0) e e.f.1 oM oM (fun zm zn _ _ e bd=>?_))))));replace e:=e.to [⟨C,25,[uV 0,eS]⟩,⟨H,25,nc 0⟩,⟨F,25,nc a⟩] [];exact lL e ae (aK (lL e ae (au 81 e (cJ zm zn (l++[u]) ((wds a).length+1) ((a+0)) (by first|rfl|assumption|(simp;done)|(simp;omega)|omega) (Dg.append Q (Dg.one oM)) (by show ak _ (l++[u])=_;rw[dH];show _+_*(u+_*0)=_;rw[Ah,yw];exact B) sM sM _ _ e.g e.f.1) (fun _ _ e=>lP 0 0 (nc (a+0)) e (fun _ e=>ah e [(0,0,2)] (nv (a+0)) rfl)))))
 have zd:=oT U;refine lB 50 U (ag (bZ (cK (cQ (kZ (ab e aE (aK (lL e ae (ag (ab e [.c,.c,.v (iV 0)] ?_))))))))));have ⟨zg,bb⟩:=dF (p:=(i:Int)<(0:Int)) oM;refine lB 55 zg (am (cK (kQ (lL e ll (lX 65 (sB j) ((wds a).length) ((wds a).length) 1 (i:Nat) i rfl ?_)))));refine lQ 66 0 l aj 1 0 i (mV ((l).getD i 0)) e oM (lL e aE ?_);obtain ⟨x,X,bl,bn,bm,M⟩:=dM ((l).getD i 0) 0 u wM wM oM;refine lV 69 (.tuple #[mV x,mV X]) ?_ (hr:=du kR (M _));refine lL e [.c,.v (mV x),.v (mV X)] (lX 72 (sB j) ((wds a).length) ((wds a).length) 1 (i:Nat) i rfl ?_);refine lW 0 l aj 1 i x e oM (fun _ e=>?_);have zi:((l).set i x).length=(wds a).length:=by rw[Ic];exact hll
 replace e:=e.to [⟨j,23,((l).set i x).flatMap aj⟩,⟨C,25,[uV 0,eS]⟩,⟨H,25,nc 0⟩,⟨F,25,nc a⟩] [];refine lL e ae (lN (kQ (bB 73 ((i:Nat)+1) (i+1) ?_)));refine lL e ae (lD ?_);intro a_ ka;refine ⟨_,_,?_,⟨i+1,(l).set i x,X,zk,rfl,rfl,e.to _ _,oM,zi,(Q.set _ oM),oM,(fJ oM inv (by first|omega|(have hy0:=ci (l:=([]:List Nat)) (k:=i) (by first|omega|(simp;done));omega)))⟩,ka.to _ kR⟩
 omega
theorem E3 (a b:Nat)(c:(wds a).length<=1000000000)(d:(wds b).length<=1000000000)(w:World)(h:Hp)(g:G w h):CV 70 #[nv a,nv b] w h (nv (a+b)):=by
 rcases ep a 18446744073709551616 with h1|h1
 ·rcases ep b 18446744073709551616 with h2|h2
  ·exact Fk a b c d h1 h2 w h g
  ·rcases yW a with h3|h3
   ·subst h3;exact DX b d h2 w h g
   ·exact B8 a b c d h3 h2 (by have:=ct h2;have:=(co (n:=a)).2 h1;omega) w h g
 ·rcases yW b with h3|h3
  ·subst h3;exact Ep a c h1 w h g
  ·rcases ep (wds a).length (wds b).length with h4|h4
   ·exact B8 a b c d oM (by have:=ct h1;rcases ep b 18446744073709551616 with h5|h5;(have:=(co (n:=b)).2 h5;omega);exact h5) h4 w h g
   ·exact EZ a b c d h1 h3 h4 w h g
theorem nx {l:List Nat}{a b c:Nat}(d:Wd l)(inv:ak 18446744073709551616 l+b=a+18446744073709551616^l.length*c)(e:b<=a)(f:c<=1):aA l=a-b:=by
 have h1:=bS d
 have:c=0:=by
  rcases yW c with h|h
  ·exact h
  ·have:c=1:=by omega
   subst this;rw[Ga] at inv
   omega
 subst this;rw[Ah,yw] at inv
 show ak _ l=_
 omega
theorem AR {a b q r:Nat}(h:a=b*q+r)(hr:r<b):q=a/b/\r=a%b:=by
 subst h;rw[Nat.mul_add_div oM,zY hr,Nat.mul_add_mod,yN hr];simp
theorem fD (n:Nat)(d:(wds n).length<=1000000000)(w:World)(h:Hp)(g:G w h):CR 79 #[nv n] w h (fun v h1=>∃ A c,v=.slice A (wds n).length c/\(wds n).length<=c/\SlO 1 aj 0 h1 A (wds n)):=by
 rcases yW n with h0|h0
 ·subst h0
  refine (j3 w h g).mono ?_;rintro _ w' ⟨_,a,rfl,u,rfl⟩;exact ⟨_,a,rfl,u,none,0,rfl,nR _,SlO.nil⟩
 ·refine (fd n h0 d w h g).mono ?_
  rintro _ w' ⟨_,a,rfl,u,b,rfl,_,_,e⟩;exact ⟨_,a,rfl,u,_,_,rfl,nR _,e⟩
theorem Cb (a b:Nat)(e:a<b)(f:(wds a).length<=1000000000)(d:(wds b).length<=1000000000)(w:World)(h:Hp)(g:G w h):CV 71 #[nv a,nv b] w h (.tuple #[nv 0,.bool false]):=by
 have c:=sS g;have j:=dh e;refine go Tryz.func71 [(0,nv a),(1,nv b)] rfl (aD (lA 2 25 (nc a) c (fun F w2 C c=>lA 3 25 (nc b) c (fun y z u c=>lA 4 25 ([uV 0,eS]) c (fun D B x c=>lL c ae (ag (ab c [.o (nv a) 2 0 2,.o (nv b) 1 0 2] (au 13 c (kN a b f d _ _ c.g) (fun _ _ c=>?_)))))))));have ⟨l,i⟩:=dT (p:=(bP a b:Int)<(0:Int)) oM;exact lB 14 l (ar (ab c [.v (.agg #[uV 0,eS])] (lP 0 0 ([uV 0,eS]) c (fun _ c=>lL c ae (ah c [(0,0,2)] (.tuple #[.agg #[uV 0,eS],qF]) rfl)))))
theorem E0 (a b:Nat)(i:(wds a).length<=1000000000)(e:(wds b).length<=1000000000)(f:b<=a)(d:a<18446744073709551616)(w:World)(h:Hp)(g:G w h):CV 71 #[nv a,nv b] w h (.tuple #[nv (a-b),.bool true]):=by
 have c:=sS g;have x:=fu f;refine go Tryz.func71 [(0,nv a),(1,nv b)] rfl (aD (lA 2 25 (nc a) c (fun l w2 F c=>lA 3 25 (nc b) c (fun u C z c=>lA 4 25 ([uV 0,eS]) c (fun H D B c=>lL c ae (ag (ab c [.o (nv a) 2 0 2,.o (nv b) 1 0 2] (au 13 c (kN a b i e _ _ c.g) (fun _ _ c=>?_)))))))));have ⟨y,j⟩:=dF (p:=(bP a b:Int)<(0:Int)) oM;refine lB 14 y (am (cK (cQ (ab c [.v (qP l 1),.o (.string (hi a)) 2 1 1] (lV 18 qT ?_ (hr:=rb kR (iR (d7 d))))))));refine ar (ab c [.v (pB l),.o (mV (a%18446744073709551616)) 2 0 1,.v (pB u),.o (mV (b%18446744073709551616)) 1 0 1] (lV 23 (mV ((a%18446744073709551616)-(b%18446744073709551616))) ?_ (hr:=rU ((((a%18446744073709551616:Nat):Int)-((b%18446744073709551616:Nat):Int))) kR (fQ (a%18446744073709551616) (b%18446744073709551616) oM oM))));exact lL c [.v (.agg #[mV ((a%18446744073709551616)-(b%18446744073709551616)),eS])] (lP 0 0 ([mV ((a%18446744073709551616)-(b%18446744073709551616)),eS]) c (fun _ c=>lL c ae (ah c [(0,0,2)] (.tuple #[.agg #[mV ((a%18446744073709551616)-(b%18446744073709551616)),eS],qT]) (by rw[yN d,yN (show b<18446744073709551616 by omega),iq oM]))))
theorem Ff (a b:Nat)(hla:(wds a).length<=1000000000)(hlb:(wds b).length<=1000000000)(L:b<=a)(has:18446744073709551616<=a)(hb0:0<b)(w:World)(h:Hp)(g:G w h):CV 71 #[nv a,nv b] w h (.tuple #[nv (a-b),.bool true]):=by
 have e:=sS g;have hcl:=fu L;have hlm:=cn L;refine go Tryz.func71 [(0,nv a),(1,nv b)] rfl (aD (lA 2 25 (nc a) e (fun B w2 h3 e=>lA 3 25 (nc b) e (fun F w5 h6 e=>lA 4 25 ([uV 0,eS]) e (fun C w8 h9 e=>lL e ae (ag (ab e [.o (nv a) 2 0 2,.o (nv b) 1 0 2] (au 13 e (kN a b hla hlb _ _ e.g) (fun zl _ e=>?_)))))))));have ⟨zi,bb⟩:=dF (p:=(bP a b:Int)<(0:Int)) oM;refine lB 14 zi (am (cK (cQ (ab e [.v (qP B 1),.o (.string (hi a)) 2 1 1] (lV 18 qF ?_ (hr:=rb kR (g8 (em has))))))));refine am (cK (cQ ?_));obtain ⟨J,hK_⟩:∃ J,J=zl.heap.size:=⟨_,rfl⟩;have bd:C<J:=by rw[hK_];exact ej e 0
 have D:F<J:=by rw[hK_];exact ej e 1
 have H:B<J:=by rw[hK_];exact ej e 2
 refine vL ⟨[],some (J,[])⟩ 0 mixed ?_;have b5:=e.g.size;replace e:=e.drew;have z:=Ir hK_;refine zO 0 25 [(2,0,2)] (nv a) rfl z e (fun p hp=>by obtain rfl:=vl.1 hp;exact H) (zO 2 27 [(1,0,2)] (nv b) rfl z e (fun p hp=>by obtain rfl:=vl.1 hp;exact D) (qA 1 26 (fd a oM oM _ _ e.g) rfl z ?_));rintro _ _ _ u15 z ⟨j,rfl,M,W,bl⟩;obtain ⟨_,e,-,-⟩:=e.take u15 M W;replace e:=e.to [⟨j,23,(wds a).flatMap aj⟩,⟨C,25,[uV 0,eS]⟩,⟨F,25,nc b⟩,⟨B,25,nc a⟩] [];refine qA 3 28 (fd b oM oM _ _ e.g) rfl z ?_;rintro _ _ _ u19 z ⟨u,rfl,O,Q,b2⟩;obtain ⟨zm,e,-,-⟩:=e.take u19 O Q;replace e:=e.to [⟨u,23,(wds b).flatMap aj⟩,⟨j,23,(wds a).flatMap aj⟩,⟨C,25,[uV 0,eS]⟩,⟨F,25,nc b⟩,⟨B,25,nc a⟩] [];refine zV 4 6 (qS (sB j) ((wds a).length) ((wds a).length)) (zV 5 7 (qS (sB u) ((wds b).length) ((wds b).length)) (tM (lL e ae (ag (ab e [.c,.v (nV ((wds a).length)),.c] (a7 ?_))))));refine bY _ (CG.loop (fun μ_ Γ w_=>∃ (i:Nat)(l:List Nat)(I:Nat)(h_:Hp),μ_=(wds a).length-i/\Γ=[(4,pB C),(5,qF),(6,qS (sB j) ((wds a).length) ((wds a).length)),(7,qS (sB u) ((wds b).length) ((wds b).length)),(30,nV ((wds a).length)),(31,nV i),(8,mV I)]/\SS w h w_ h_ [⟨u,23,(wds b).flatMap aj⟩,⟨j,23,(l).flatMap aj⟩,⟨C,25,[uV 0,eS]⟩,⟨F,25,nc b⟩,⟨B,25,nc a⟩] [] []/\i<=(wds a).length/\l.length=(wds a).length/\Wd l/\I<=1/\ak 18446744073709551616 l+ak 18446744073709551616 ((wds b:List Nat).take i)=a+18446744073709551616^i*I) _ ⟨0,wds a,0,zm,rfl,rfl,e.to _ _,In _,rfl,Wd.wds _,oM,(by have hx_:ak 18446744073709551616 (wds a)=a:=aJ _;rw[hx_];simp[ak])⟩ ?_);rintro _ _ _ ⟨i,l,I,zg,bn,rfl,e,hi,U,V,hbo,inv⟩;have hlk:=V.get i;have hyk:=(Wd.wds b).get i;refine aD ?_;cases Z:(decide ((i:Int)<(((wds a).length:Nat):Int)))
 .
  have ze:=oF Z;refine lB 32 Z (ag (cD (CG.exit ?_)))
  show CG _ _ _ _ _ _ _ _
  refine aD ?_;rw[G1 (show (wds b).length<=i by first|omega|(simp;done)|(simp;omega)),show i=l.length by omega] at inv
  have hE:aA l=a-b:=nx V (by have hb_:ak 18446744073709551616 (wds b)=b:=aJ b;rw[<-hb_];exact inv) oM hbo;obtain ⟨_,e,X,b0,bf⟩:=e.pub 1;replace e:=(e.to [⟨u,23,(wds b).flatMap aj⟩,⟨C,25,[uV 0,eS]⟩,⟨F,25,nc b⟩,⟨B,25,nc a⟩] []).aS (SlO.of_flat (sz:=1) (f:=aj) (d:=0) (b:=j) (o:=0) (l:=l) (fun _=>rfl) X);exact lL e ae (au 57 e (cJ (sB j) ((wds a).length) (l) ((wds a).length) ((a-b)) (by first|rfl|assumption|(simp;done)|(simp;omega)|omega) (V) (hE) sM sM _ _ e.g e.f.1) (fun _ _ e=>lP 1 0 (nc (a-b)) e (fun _ e=>lL e ae (ah e [(1,0,2)] (.tuple #[nv (a-b),qT]) rfl))))
 have ze:=oT Z;refine lB 32 Z (ag (bZ (cK (cQ (kZ (ab e aE (aK (lL e ae (ag (ab e [.c,.c,.v (nV ((wds b).length))] ?_))))))))));cases Y:(decide ((i:Int)<(((wds b).length:Nat):Int)))
 .
  have zf:=oF Y;refine lB 37 Y (am (cK (kQ (lL e ll (lX 47 (sB j) ((wds a).length) ((wds a).length) 1 (i:Nat) i rfl ?_)))));refine lQ 48 1 l aj 1 0 i (mV ((l).getD i 0)) e oM (lL e aE ?_);obtain ⟨y,zc,b6,b3,bq,S⟩:=iB ((l).getD i 0) 0 I wM wM oM;refine lV 51 (.tuple #[mV y,mV zc]) ?_ (hr:=du kR (S _));refine lL e [.c,.v (mV y),.v (mV zc)] (lX 54 (sB j) ((wds a).length) ((wds a).length) 1 (i:Nat) i rfl ?_);refine lW 1 l aj 1 i y e oM (fun _ e=>?_);have zj:((l).set i y).length=(wds a).length:=by rw[Ic];exact U
  replace e:=e.to [⟨u,23,(wds b).flatMap aj⟩,⟨j,23,((l).set i y).flatMap aj⟩,⟨C,25,[uV 0,eS]⟩,⟨F,25,nc b⟩,⟨B,25,nc a⟩] [];refine lL e ae (lN (kQ (bB 55 ((i:Nat)+1) (i+1) ?_)));refine lL e ae (lD ?_);intro a_ ka;refine ⟨_,_,?_,⟨i+1,(l).set i y,zc,zg,rfl,rfl,e.to _ _,oM,zj,(V.set _ oM),oM,(gq oM inv (by first|omega|(have hy0:=ci (l:=(wds b:List Nat)) (k:=i) (by first|omega|(simp;done));omega)))⟩,ka.to _ kR⟩
  omega
 have zf:=oT Y;refine lB 37 Y (ar (kQ (lL e aE (lX 40 (sB u) ((wds b).length) ((wds b).length) 1 (i:Nat) i rfl ?_))));refine lQ 41 0 (wds b) aj 1 0 i (mV ((wds b).getD i 0)) e oM (lL e ae (lN (kQ (lL e ll (lX 47 (sB j) ((wds a).length) ((wds a).length) 1 (i:Nat) i rfl ?_)))));refine lQ 48 1 l aj 1 0 i (mV ((l).getD i 0)) e oM (lL e aE ?_);obtain ⟨x,zd,bk,bm,bz,K⟩:=iB ((l).getD i 0) ((wds b).getD i 0) I wM wM oM;refine lV 51 (.tuple #[mV x,mV zd]) ?_ (hr:=du kR (K _));refine lL e [.c,.v (mV x),.v (mV zd)] (lX 54 (sB j) ((wds a).length) ((wds a).length) 1 (i:Nat) i rfl ?_);refine lW 1 l aj 1 i x e oM (fun _ e=>?_);have zk:((l).set i x).length=(wds a).length:=by rw[Ic];exact U
 replace e:=e.to [⟨u,23,(wds b).flatMap aj⟩,⟨j,23,((l).set i x).flatMap aj⟩,⟨C,25,[uV 0,eS]⟩,⟨F,25,nc b⟩,⟨B,25,nc a⟩] [];refine lL e ae (lN (kQ (bB 55 ((i:Nat)+1) (i+1) ?_)));refine lL e ae (lD ?_);intro a_ ka;refine ⟨_,_,?_,⟨i+1,(l).set i x,zd,zg,rfl,rfl,e.to _ _,oM,zk,(V.set _ oM),oM,(gq oM inv (by first|omega|(have hy0:=ci (l:=(wds b:List Nat)) (k:=i) (by first|omega|(simp;done));omega)))⟩,ka.to _ kR⟩
 omega
theorem Gh (a:Nat)(W:(wds a).length<=1000000000)(U:18446744073709551616<=a)(w:World)(h:Hp)(g:G w h):CV 71 #[nv a,nv 0] w h (.tuple #[nv a,.bool true]):=by
 have e:=sS g;have hcl:=fu (show 0<=a by omega);refine go Tryz.func71 [(0,nv a),(1,nv 0)] rfl (aD (lA 2 25 (nc a) e (fun D w2 h3 e=>lA 3 25 (nc 0) e (fun I w5 h6 e=>lA 4 25 ([uV 0,eS]) e (fun C w8 h9 e=>lL e ae (ag (ab e [.o (nv a) 2 0 2,.o (nv 0) 1 0 2] (au 13 e (kN a 0 W (by simp[kC]) _ _ e.g) (fun zg _ e=>?_)))))))));have ⟨zd,bb⟩:=dF (p:=(bP a 0:Int)<(0:Int)) oM;refine lB 14 zd (am (cK (cQ (ab e [.v (qP D 1),.o (.string (hi a)) 2 1 1] (lV 18 qF ?_ (hr:=rb kR (g8 (em U))))))));refine am (cK (cQ ?_));obtain ⟨B,hK_⟩:∃ B,B=zg.heap.size:=⟨_,rfl⟩;have bd:C<B:=by rw[hK_];exact ej e 0
 have y:I<B:=by rw[hK_];exact ej e 1
 have z:D<B:=by rw[hK_];exact ej e 2
 refine vL ⟨[],some (B,[])⟩ 0 mixed ?_;have bq:=e.g.size;replace e:=e.drew;have x:=Ir hK_;refine zO 0 25 [(2,0,2)] (nv a) rfl x e (fun p Q=>by obtain rfl:=vl.1 Q;exact z) (zO 2 27 [(1,0,2)] (nv 0) rfl x e (fun p Q=>by obtain rfl:=vl.1 Q;exact y) (qA 1 26 (fd a oM oM _ _ e.g) rfl x ?_));rintro _ _ _ X x ⟨j,rfl,L,H,bz⟩;obtain ⟨_,e,-,-⟩:=e.take X L H;replace e:=e.to [⟨j,23,(wds a).flatMap aj⟩,⟨C,25,[uV 0,eS]⟩,⟨I,25,nc 0⟩,⟨D,25,nc a⟩] [];refine qA 3 28 (j3 _ _ e.g) rfl x ?_;rintro _ _ zi Z x rfl;replace e:=e.step Z;refine zV 4 6 (qS (sB j) ((wds a).length) ((wds a).length)) (zV 5 7 (sZ) (tM (lL e ae (ag (ab e [.c,.v (nV ((wds a).length)),.c] (a7 ?_))))));refine bY _ (CG.loop (fun Y Γ w_=>∃ (i:Nat)(l:List Nat)(K:Nat)(h_:Hp),Y=(wds a).length-i/\Γ=[(4,pB C),(5,qF),(6,qS (sB j) ((wds a).length) ((wds a).length)),(7,sZ),(30,nV ((wds a).length)),(31,nV i),(8,mV K)]/\SS w h w_ h_ [⟨j,23,(l).flatMap aj⟩,⟨C,25,[uV 0,eS]⟩,⟨I,25,nc 0⟩,⟨D,25,nc a⟩] [] []/\i<=(wds a).length/\l.length=(wds a).length/\Wd l/\K<=1/\ak 18446744073709551616 l+ak 18446744073709551616 (([]:List Nat).take i)=a+18446744073709551616^i*K) _ ⟨0,wds a,0,zi,rfl,rfl,e.to _ _,In _,rfl,Wd.wds _,oM,(by have hx_:ak 18446744073709551616 (wds a)=a:=aJ _;rw[hx_];simp[ak])⟩ ?_);rintro _ _ _ ⟨i,l,K,zj,bk,rfl,e,hi,hll,M,hbo,inv⟩;have hlk:=M.get i;have hyk:=Wd.get (l:=[]) Dg.nil i;refine aD ?_;cases O:(decide ((i:Int)<(((wds a).length:Nat):Int)))
 .
  have zc:=oF O;refine lB 32 O (ag (cD (CG.exit ?_)))
  show CG _ _ _ _ _ _ _ _
  refine aD ?_;rw[List.take_nil,show i=l.length by omega] at inv
  have hE:aA l=a:=nx (b:=0) M inv oM hbo;obtain ⟨_,e,J,bf,b0⟩:=e.pub 0;replace e:=(e.to [⟨C,25,[uV 0,eS]⟩,⟨I,25,nc 0⟩,⟨D,25,nc a⟩] []).aS (SlO.of_flat (sz:=1) (f:=aj) (d:=0) (b:=j) (o:=0) (l:=l) (fun _=>rfl) J);exact lL e ae (au 57 e (cJ (sB j) ((wds a).length) (l) ((wds a).length) (a) (by first|rfl|assumption|(simp;done)|(simp;omega)|omega) (M) (hE) sM sM _ _ e.g e.f.1) (fun _ _ e=>lP 0 0 (nc a) e (fun _ e=>lL e ae (ah e [(0,0,2)] (.tuple #[nv a,qT]) rfl))))
 have zc:=oT O;refine lB 32 O (ag (bZ (cK (cQ (kZ (ab e aE (aK (lL e ae (ag (ab e [.c,.c,.v (iV 0)] ?_))))))))));have ⟨ze,V⟩:=dF (p:=(i:Int)<(0:Int)) oM;refine lB 37 ze (am (cK (kQ (lL e ll (lX 47 (sB j) ((wds a).length) ((wds a).length) 1 (i:Nat) i rfl ?_)))));refine lQ 48 0 l aj 1 0 i (mV ((l).getD i 0)) e oM (lL e aE ?_);obtain ⟨u,S,bm,bl,bn,F⟩:=iB ((l).getD i 0) 0 K wM wM oM;refine lV 51 (.tuple #[mV u,mV S]) ?_ (hr:=du kR (F _));refine lL e [.c,.v (mV u),.v (mV S)] (lX 54 (sB j) ((wds a).length) ((wds a).length) 1 (i:Nat) i rfl ?_);refine lW 0 l aj 1 i u e oM (fun _ e=>?_);have zf:((l).set i u).length=(wds a).length:=by rw[Ic];exact hll
 replace e:=e.to [⟨j,23,((l).set i u).flatMap aj⟩,⟨C,25,[uV 0,eS]⟩,⟨I,25,nc 0⟩,⟨D,25,nc a⟩] [];refine lL e ae (lN (kQ (bB 55 ((i:Nat)+1) (i+1) ?_)));refine lL e ae (lD ?_);intro a_ ka;refine ⟨_,_,?_,⟨i+1,(l).set i u,S,zj,rfl,rfl,e.to _ _,oM,zf,(M.set _ oM),oM,(gq oM inv (by first|omega|(have hy0:=ci (l:=([]:List Nat)) (k:=i) (by first|omega|(simp;done));omega)))⟩,ka.to _ kR⟩
 omega
theorem x9 (a b:Nat)(e:b<=a)(c:(wds a).length<=1000000000)(d:(wds b).length<=1000000000)(w:World)(h:Hp)(g:G w h):CV 71 #[nv a,nv b] w h (.tuple #[nv (a-b),.bool true]):=by
 rcases ep a 18446744073709551616 with h1|h1
 ·exact E0 a b c d e h1 w h g
 ·rcases yW b with h3|h3
  ·subst h3;exact Gh a c h1 w h g
  ·exact Ff a b c d e h1 h3 w h g
theorem EY (a b:Nat)(O:(wds a).length<=1000000000)(M:(wds b).length<=1000000000)(u:a<18446744073709551616)(p:b<18446744073709551616)(w:World)(h:Hp)(g:G w h):CV 40 #[nv a,nv b] w h (nv (a*b)):=by
 have e:=sS g;have B:=yN u;have C:=yN p;refine go Tryz.func40 [(0,nv a),(1,nv b)] rfl (aD (lA 2 25 (nc a) e (fun J w2 W e=>lA 3 25 (nc b) e (fun H U Q e=>lA 4 25 ([uV 0,eS]) e (fun X V S e=>ag (ab e [.v (qP J 1),.o (.string (hi a)) 2 1 1] (lV 9 qT ?_ (hr:=rb kR (iR (d7 u))))))))));refine lL e [.c,.v (qP H 1),.o (.string (hi b)) 1 1 1] (lV 13 qT ?_ (hr:=rb kR (iR (d7 p))));refine lL e [.v qT] (ar (ab e [.v (pB J),.o (mV (a%18446744073709551616)) 2 0 1,.v (pB H),.o (mV (b%18446744073709551616)) 1 0 1] (lC 20 e (ne (a%18446744073709551616) (b%18446744073709551616) wM wM _ _ e.g) ?_)));rintro _ _ _ e ⟨i,j,rfl,x,D,I,F⟩;have z:=iI (a:=(a%18446744073709551616)) (b:=(b%18446744073709551616)) wM wM;refine lL e [.c,.v (mV i),.v (mV j),.c,.c] (ag (aD ?_));rw[B,C] at x
 refine lL e ae ?_;cases y:((i:Int) == (0:Int))
 .
  have K:=aq y;refine lB 24 y (am (cK (ab e aE (lR 29 23 2 ([mV j,mV i]) e (fun L _ _ e=>?_)))));replace e:=e.aS (SlO.of_flat (sz:=1) (f:=aj) (d:=0) (l:=[j,i]) (fun _=>rfl) e.f.1);exact au 30 e (cJ (sB L) 2 ([j,i]) 2 ((a*b)) (by first|rfl|assumption|(simp;done)|(simp;omega)|omega) (Dg.cons oM (Dg.one oM)) (by show j+18446744073709551616*(i+18446744073709551616*0)=a*b;omega) sM sM _ _ e.g e.f.1) (fun _ _ e=>lP 0 0 (nc (a*b)) e (fun _ e=>ah e [(0,0,2)] (nv (a*b)) rfl))
 have K:=eq_of_beq y;exact lB 24 y (ar (ab e [.c,.v (.agg #[mV j,eS])] (lP 0 0 ([mV j,eS]) e (fun _ e=>ah e [(0,0,2)] (.agg #[mV j,eS]) (by rw[show j=a*b by omega];exact iq oM)))))
theorem FU (a b:Nat)(H:(wds a).length<=1000000000)(F:(wds b).length<=1000000000)(j:18446744073709551616<=a)(w:World)(h:Hp)(g:G w h):CV 40 #[nv a,nv b] w h (nv (a*b)):=by
 have c:=sS g;refine go Tryz.func40 [(0,nv a),(1,nv b)] rfl (aD (lA 2 25 (nc a) c (fun L w2 W c=>lA 3 25 (nc b) c (fun S U O c=>lA 4 25 ([uV 0,eS]) c (fun X V Q c=>ag (ab c [.v (qP L 1),.o (.string (hi a)) 2 1 1] (lV 9 qF ?_ (hr:=rb kR (g8 (em j))))))))));refine lL c ae (lG 11 ?_);refine lG 12 (lG 13 (lL c [.v qF] (am (cK (cQ (cR 6 [] mixed c ai ?_))))));refine eO 0 31 [(2,0,2)] (nv a) c (eO 2 33 [(1,0,2)] (nv b) c (eC 1 32 c (fun _ _ c=>fD a oM _ _ c.g) ?_));rintro _ _ _ _ _ c ⟨i,l,rfl,B,e⟩;replace c:=c.aS e;refine eC 3 34 c (fun _ _ c=>fD b oM _ _ c.g) ?_;rintro _ _ _ _ _ c ⟨x,d,rfl,C,y⟩;replace c:=c.aS y;refine eC 4 35 c (fun _ _ c=>Ce i l (wds a) x d (wds b) (Wd.wds a) (Wd.wds b) oM oM _ _ c.g c.f.2.1 c.f.1) ?_;rintro _ _ _ _ _ c ⟨J,I,z,rfl,M,K,p,u,D⟩;replace c:=c.aS D;exact af 5 36 c (fun _ _ c=>cJ J I (z) z.length ((a*b)) (by first|rfl|assumption|(simp;done)|(simp;omega)|omega) (p) (u.trans (by rw[aJ,aJ])) sM sM _ _ c.g c.f.1) (fun _ _ c=>bA c (fun _ _ c=>tP 6 0 0 (nc (a*b)) c (fun _ c=>tN (kX (c.ret [(0,0,2)] (nv (a*b)) rfl)))))
theorem Gd (a b:Nat)(K:(wds a).length<=1000000000)(J:(wds b).length<=1000000000)(p:a<18446744073709551616)(l:18446744073709551616<=b)(w:World)(h:Hp)(g:G w h):CV 40 #[nv a,nv b] w h (nv (a*b)):=by
 have d:=sS g;refine go Tryz.func40 [(0,nv a),(1,nv b)] rfl (aD (lA 2 25 (nc a) d (fun Q w2 Y d=>lA 3 25 (nc b) d (fun I W U d=>lA 4 25 ([uV 0,eS]) d (fun Z X V d=>ag (ab d [.v (qP Q 1),.o (.string (hi a)) 2 1 1] (lV 9 qT ?_ (hr:=rb kR (iR (d7 p))))))))));refine lL d [.c,.v (qP I 1),.o (.string (hi b)) 1 1 1] (lV 13 qF ?_ (hr:=rb kR (g8 (em l))));refine lL d [.v qF] (am (cK (cQ (cR 6 [] mixed d ai ?_))));refine eO 0 31 [(2,0,2)] (nv a) d (eO 2 33 [(1,0,2)] (nv b) d (eC 1 32 d (fun _ _ d=>fD a oM _ _ d.g) ?_));rintro _ _ _ _ _ d ⟨j,u,rfl,D,i⟩;replace d:=d.aS i;refine eC 3 34 d (fun _ _ d=>fD b oM _ _ d.g) ?_;rintro _ _ _ _ _ d ⟨z,e,rfl,F,B⟩;replace d:=d.aS B;refine eC 4 35 d (fun _ _ d=>Ce j u (wds a) z e (wds b) (Wd.wds a) (Wd.wds b) oM oM _ _ d.g d.f.2.1 d.f.1) ?_;rintro _ _ _ _ _ d ⟨M,L,C,rfl,S,O,x,y,H⟩;replace d:=d.aS H;exact af 5 36 d (fun _ _ d=>cJ M L (C) C.length ((a*b)) (by first|rfl|assumption|(simp;done)|(simp;omega)|omega) (x) (y.trans (by rw[aJ,aJ])) sM sM _ _ d.g d.f.1) (fun _ _ d=>bA d (fun _ _ d=>tP 6 0 0 (nc (a*b)) d (fun _ d=>tN (kX (d.ret [(0,0,2)] (nv (a*b)) rfl)))))
theorem ot (a b:Nat)(c:(wds a).length<=1000000000)(d:(wds b).length<=1000000000)(w:World)(h:Hp)(g:G w h):CV 40 #[nv a,nv b] w h (nv (a*b)):=by
 rcases ep a 18446744073709551616 with h1|h1
 ·rcases ep b 18446744073709551616 with h2|h2
  ·exact EY a b c d h1 h2 w h g
  ·exact Gd a b c d h1 h2 w h g
 ·exact FU a b c d h1 w h g
theorem B4 (a b:Nat)(L:0<b)(Q:(wds a).length<=1000000000)(F:(wds b).length<=1000000000)(B:a<18446744073709551616)(l:b<18446744073709551616)(w:World)(h:Hp)(g:G w h):CV 72 #[nv a,nv b] w h (.tuple #[nv (a/b),nv (a%b),.bool true]):=by
 have d:=sS g;have J:=(cj L).2.2;have K:=yN l;refine go Tryz.func72 [(0,nv a),(1,nv b)] rfl (aD (lA 2 25 (nc a) d (fun I w2 Y d=>lA 3 25 (nc b) d (fun D W U d=>lA 4 25 ([uV 0,eS]) d (fun S X V d=>lA 5 25 ([uV 0,eS]) d (fun O _ _ d=>lL d ae (ag (ab d [.o (nv b) 2 0 2] (au 12 d (ff b F _ _ d.g) (fun _ _ d=>?_))))))))));have M:(((nb b:Nat):Int) == (0:Int))=false:=fY oM;have H:=aq M;refine lB 13 M (am (cK (cQ (ab d [.v (qP I 1),.o (.string (hi a)) 3 1 1] (lV 18 qT ?_ (hr:=rb kR (iR (d7 B))))))));refine lL d [.c,.v (qP D 1),.o (.string (hi b)) 2 1 1] (lV 22 qT ?_ (hr:=rb kR (iR (d7 l))));refine lL d [.v qT] (ar (cQ ?_));have z:=d;refine B5 12 [] [S,O] mixed d ai (eV 0 24 (pB I) (eO 1 25 [(3,0,1)] (mV (a%18446744073709551616)) d (eV 2 26 (pB D) (eO 3 27 [(2,0,1)] (mV (b%18446744073709551616)) d (eV 4 28 (mV ((a%18446744073709551616)/(b%18446744073709551616))) ?_ (hv:=fun _=>ay (dl (t:=23) (u:=23) (x:=.tmp 25) (y:=.tmp 27) (k:=.u64) (a:=((a%18446744073709551616:Nat):Int)) (b:=((b%18446744073709551616:Nat):Int)) kR kR kR oM _) (kU (a%18446744073709551616) (b%18446744073709551616) oM)))))));refine eV 5 29 (.agg #[mV ((a%18446744073709551616)/(b%18446744073709551616)),eS]) (eV 6 30 (pB I) (wP 7 31 [(3,0,1)] (mV (a%18446744073709551616)) z d ?_ (hM:=fun p C=>by obtain rfl:=vl.1 C;exact fun f=>by rcases g4.1 f with e|f;exact fv d.st (i:=3) (j:=1) kR kR kR e;rcases g4.1 f with e|f;exact fv d.st (i:=3) (j:=0) kR kR kR e;cases f)));refine eV 8 32 (pB D) (wP 9 33 [(2,0,1)] (mV (b%18446744073709551616)) z d ?_ (hM:=fun p C=>by obtain rfl:=vl.1 C;exact fun f=>by rcases g4.1 f with e|f;exact fv d.st (i:=2) (j:=1) kR kR kR e;rcases g4.1 f with e|f;exact fv d.st (i:=2) (j:=0) kR kR kR e;cases f));refine eV 10 34 (mV ((a%18446744073709551616)%(b%18446744073709551616))) ?_ (hv:=fun _=>ay (fC (t:=23) (u:=23) (x:=.tmp 31) (y:=.tmp 33) (k:=.u64) (a:=((a%18446744073709551616:Nat):Int)) (b:=((b%18446744073709551616:Nat):Int)) kR kR kR oM _) (dg (a%18446744073709551616) (b%18446744073709551616)));refine eV 11 35 (.agg #[mV ((a%18446744073709551616)%(b%18446744073709551616)),eS]) (bA d (fun _ _ d=>tP 12 1 0 ([mV ((a%18446744073709551616)/(b%18446744073709551616)),eS]) d (fun _ d=>?_) (hz:=fw (Is))));refine tP 13 0 0 ([mV ((a%18446744073709551616)%(b%18446744073709551616)),eS]) d (fun _ d=>?_) (hz:=fw (Iu _<|Is));exact tV 14 6 qT (tN (kX (d.ret [(1,0,2),(0,0,2)] (.tuple #[.agg #[mV ((a%18446744073709551616)/(b%18446744073709551616)),eS],.agg #[mV ((a%18446744073709551616)%(b%18446744073709551616)),eS],qT]) (by rw[yN B,yN l,iq (show a/b<18446744073709551616 by have:=zy a b;omega),iq (show a%b<18446744073709551616 by have:=yO a L;omega)]))))
theorem FA (a b:Nat)(hb:0<b)(M:(wds a).length<=1000000000)(I:(wds b).length<=1000000000)(Z:18446744073709551616<=a)(x:b<18446744073709551616)(w:World)(h:Hp)(g:G w h):CV 72 #[nv a,nv b] w h (.tuple #[nv (a/b),nv (a%b),.bool true]):=by
 have i:=sS g;have bk:=(cj hb).2.2;have bl:=yN x;have hcl:=fu (show b<=a by omega);refine go Tryz.func72 [(0,nv a),(1,nv b)] rfl (aD (lA 2 25 (nc a) i (fun Q w2 h3 i=>lA 3 25 (nc b) i (fun D w5 h6 i=>lA 4 25 ([uV 0,eS]) i (fun U w8 h9 i=>lA 5 25 ([uV 0,eS]) i (fun V _ _ i=>lL i ae (ag (ab i [.o (nv b) 2 0 2] (au 12 i (ff b I _ _ i.g) (fun _ _ i=>?_))))))))));have zb:(((nb b:Nat):Int) == (0:Int))=false:=fY oM;have bb:=aq zb;refine lB 13 zb (am (cK (cQ (ab i [.v (qP Q 1),.o (.string (hi a)) 3 1 1] (lV 18 qF ?_ (hr:=rb kR (g8 (em Z))))))));refine lL i ae (lG 20 ?_);refine lG 21 (lG 22 (lL i [.v qF] (am (cK (cQ (ab i [.o (nv a) 3 0 2,.o (nv b) 2 0 2] (au 38 i (kN a b M I _ _ i.g) (fun zd _ i=>?_))))))));have ⟨zc,bd⟩:=dF (p:=(bP a b:Int)<(0:Int)) oM;refine lB 39 zc (am (cK (cQ (ab i [.v (qP D 1),.o (.string (hi b)) 2 1 1] (lV 44 qT ?_ (hr:=rb kR (iR (d7 x))))))));refine ar (cQ ?_);obtain ⟨B,hK_⟩:∃ B,B=zd.heap.size:=⟨_,rfl⟩;have S:V<B:=by rw[hK_];exact ej i 0
 have bf:U<B:=by rw[hK_];exact ej i 1
 have y:D<B:=by rw[hK_];exact ej i 2
 have C:Q<B:=by rw[hK_];exact ej i 3
 refine vL ⟨[],some (B,[])⟩ 0 mixed ?_;have bq:=i.g.size;replace i:=i.drew;have u:=Ir hK_;refine zO 0 46 [(3,0,2)] (nv a) rfl u i (fun p X=>by obtain rfl:=vl.1 X;exact C) (zV 2 48 (pB D) (zO 3 49 [(2,0,1)] (mV (b%18446744073709551616)) rfl u i (fun p X=>by obtain rfl:=vl.1 X;exact y) (qA 1 47 (fd a oM oM _ _ i.g) rfl u ?_)));rintro _ _ _ u21 u ⟨j,rfl,O,F,bz⟩;obtain ⟨_,i,-,-⟩:=i.take u21 O F;replace i:=i.to [⟨j,23,(wds a).flatMap aj⟩,⟨V,25,[uV 0,eS]⟩,⟨U,25,[uV 0,eS]⟩,⟨D,25,nc b⟩,⟨Q,25,nc a⟩] [];refine HL 4 50 (Fl j (wds a) (wds a).length (b%18446744073709551616) oM oM (Wd.wds a) M (nR _) _ _ i.g (i.own 0) (i.jk 0)) rfl u oM ?_;rintro _ _ _ u25 u ⟨z,r,rfl,hzl,hWz,L,J,Y⟩;replace i:=(i.stepM 0 u25 Y).to [⟨j,23,(z).flatMap aj⟩,⟨V,25,[uV 0,eS]⟩,⟨U,25,[uV 0,eS]⟩,⟨D,25,nc b⟩,⟨Q,25,nc a⟩] [];refine zV 5 45 (.tuple #[qS (sB j) (tl z z.length) ((wds a).length),mV r]) (zV 6 51 (qS (sB j) (tl z z.length) ((wds a).length)) (zV 7 52 (mV r) (zV 8 7 (qS (sB j) (tl z z.length) ((wds a).length)) (zV 9 8 (mV r) (tM ?_)))));have K:=yN x;rw[aJ,K] at L
 rw[K] at J
 obtain ⟨W,hq2⟩:=AR L J;have htz:=ia z z.length;have hQ:aA (z.take (tl z z.length))=a/b:=by have e:=iJ 18446744073709551616 z z.length (nR _);rw[yz] at e;exact e.trans W
 obtain ⟨_,i,H,bn,bm⟩:=i.pub 0;replace i:=(i.to [⟨V,25,[uV 0,eS]⟩,⟨U,25,[uV 0,eS]⟩,⟨D,25,nc b⟩,⟨Q,25,nc a⟩] []).aS (SlO.of_flat (sz:=1) (f:=aj) (d:=0) (b:=j) (o:=0) (l:=z) (fun _=>rfl) H);exact lL i ae (au 54 i (cJ (sB j) ((wds a).length) (z.take (tl z z.length)) (tl z z.length) ((a/b)) (by first|rfl|assumption|(simp;done)|(simp;omega)|omega) (Dg.take hWz _) (hQ) sM sM _ _ i.g ((i.f.1).take _)) (fun _ _ i=>lL i [.c,.v (.agg #[mV r,eS])] (lP 1 0 (nc (a/b)) i (fun _ i=>lP 0 0 ([mV r,eS]) i (fun _ i=>lL i ae (ah i [(1,0,2),(0,0,2)] (.tuple #[nv (a/b),.agg #[mV r,eS],qT]) (by rw[hq2,iq (by have:=yO a hb;omega)])))))))
theorem ER (a b:Nat)(Y:0<b)(j:(wds a).length<=1000000000)(d:(wds b).length<=1000000000)(i:b<=a)(H:18446744073709551616<=a)(e:18446744073709551616<=b)(w:World)(h:Hp)(g:G w h):CV 72 #[nv a,nv b] w h (.tuple #[nv (a/b),nv (a%b),.bool true]):=by
 have c:=sS g;have V:=(cj Y).2.2;have hcl:=fu i;have hlm:=cn i;have hl2:=ct e;refine go Tryz.func72 [(0,nv a),(1,nv b)] rfl (aD (lA 2 25 (nc a) c (fun b1 w2 h3 c=>lA 3 25 (nc b) c (fun b4 w5 h6 c=>lA 4 25 ([uV 0,eS]) c (fun b7 w8 h9 c=>lA 5 25 ([uV 0,eS]) c (fun b10 _ _ c=>lL c ae (ag (ab c [.o (nv b) 2 0 2] (au 12 c (ff b d _ _ c.g) (fun _ _ c=>?_))))))))));have Z:(((nb b:Nat):Int) == (0:Int))=false:=fY oM;have J:=aq Z;refine lB 13 Z (am (cK (cQ (ab c [.v (qP b1 1),.o (.string (hi a)) 3 1 1] (lV 18 qF ?_ (hr:=rb kR (g8 (em H))))))));refine lL c ae (lG 20 ?_);refine lG 21 (lG 22 (lL c [.v qF] (am (cK (cQ (ab c [.o (nv a) 3 0 2,.o (nv b) 2 0 2] (au 38 c (kN a b j d _ _ c.g) (fun _ _ c=>?_))))))));have ⟨zb,L⟩:=dF (p:=(bP a b:Int)<(0:Int)) oM;refine lB 39 zb (am (cK (cQ (ab c [.v (qP b4 1),.o (.string (hi b)) 2 1 1] (lV 44 qF ?_ (hr:=rb kR (g8 (em e))))))));refine am (cK (cQ (cR 8 [] mixed c ai ?_)));refine eO 0 58 [(3,0,2)] (nv a) c (eO 2 60 [(2,0,2)] (nv b) c (eC 1 59 c (fun _ _ c=>fD a oM _ _ c.g) ?_));rintro _ _ _ _ _ c ⟨D,I,rfl,W,C⟩;replace c:=c.aS C;refine eC 3 61 c (fun _ _ c=>fD b oM _ _ c.g) ?_;rintro _ _ _ _ _ c ⟨Q,z,rfl,X,U⟩;replace c:=c.aS U;refine eC 4 62 c (fun _ _ c=>DU D I (wds a) Q z (wds b) (Wd.wds a) (Wd.wds b) j oM oM (ko Y) _ _ c.g c.f.2.1 c.f.1) ?_;rintro _ _ _ _ _ c ⟨x,y,q,u,l,r,rfl,hcq,hcr,K,O,M,S,hlq,hlr,B,F⟩;replace c:=c.aP B F;exact eV 5 57 (.tuple #[qS x q.length y,qS u r.length l]) (eV 6 63 (qS x q.length y) (eV 7 64 (qS u r.length l) (bA c (fun _ _ c=>tV 8 9 (qS x q.length y) (tV 9 10 (qS u r.length l) (tM (lL c ae (au 66 c (cJ x y (q) q.length ((a/b)) (by first|rfl|assumption|(simp;done)|(simp;omega)|omega) (K) (M.trans (by rw[aJ,aJ])) sM sM _ _ c.g c.f.2.1) (fun _ _ c=>lL c ae (au 68 c (cJ u l (r) r.length ((a%b)) (by first|rfl|assumption|(simp;done)|(simp;omega)|omega) (O) (S.trans (by rw[aJ,aJ])) sM sM _ _ c.g c.f.1) (fun _ _ c=>lP 1 0 (nc (a/b)) c (fun _ c=>lP 0 0 (nc (a%b)) c (fun _ c=>lL c ae (ah c [(1,0,2),(0,0,2)] (.tuple #[nv (a/b),nv (a%b),qT]) rfl))))))))))))))
theorem E1 (a b:Nat)(O:0<b)(B:(wds a).length<=1000000000)(u:(wds b).length<=1000000000)(f:a<b)(z:a<18446744073709551616)(y:18446744073709551616<=b)(w:World)(h:Hp)(g:G w h):CV 72 #[nv a,nv b] w h (.tuple #[nv (a/b),nv (a%b),.bool true]):=by
 have d:=sS g;have F:=(cj O).2.2;have M:=dh f;refine go Tryz.func72 [(0,nv a),(1,nv b)] rfl (aD (lA 2 25 (nc a) d (fun S w2 Y d=>lA 3 25 (nc b) d (fun K W U d=>lA 4 25 ([uV 0,eS]) d (fun Q X V d=>lA 5 25 ([uV 0,eS]) d (fun J _ _ d=>lL d ae (ag (ab d [.o (nv b) 2 0 2] (au 12 d (ff b u _ _ d.g) (fun _ _ d=>?_))))))))));have H:(((nb b:Nat):Int) == (0:Int))=false:=fY oM;have C:=aq H;refine lB 13 H (am (cK (cQ (ab d [.v (qP S 1),.o (.string (hi a)) 3 1 1] (lV 18 qT ?_ (hr:=rb kR (iR (d7 z))))))));refine lL d [.c,.v (qP K 1),.o (.string (hi b)) 2 1 1] (lV 22 qF ?_ (hr:=rb kR (g8 (em y))));refine lL d [.v qF] (am (cK (cQ (ab d [.o (nv a) 3 0 2,.o (nv b) 2 0 2] (au 38 d (kN a b B u _ _ d.g) (fun _ _ d=>?_))))));have ⟨L,D⟩:=dT (p:=(bP a b:Int)<(0:Int)) oM;refine lB 39 L (ar (cQ ?_));have x:=d;refine B5 2 [] [Q,J] mixed d ai (eV 0 40 (.agg #[uV 0,eS]) (wP 1 41 [(3,0,2)] (nv a) x d ?_ (hM:=fun p I=>by obtain rfl:=vl.1 I;exact fun l=>by rcases g4.1 l with e|l;exact fv d.st (i:=3) (j:=1) kR kR kR e;rcases g4.1 l with e|l;exact fv d.st (i:=3) (j:=0) kR kR kR e;cases l)));refine bA d (fun _ _ d=>tP 2 1 0 ([uV 0,eS]) d (fun _ d=>?_) (hz:=fw (Is)));refine tP 3 0 0 (nc a) d (fun _ d=>?_) (hz:=fw (Iu _<|Is));exact tV 4 6 qT (tN (kX (d.ret [(1,0,2),(0,0,2)] (.tuple #[.agg #[uV 0,eS],nv a,qT]) (by have f:a<b:=(by rcases ep a b with h_|h_;exact h_;rcases fu h_ with e|e<;>omega);rw[zY f,yN f];rfl))))
theorem Fs (a b:Nat)(K:0<b)(y:(wds a).length<=1000000000)(l:(wds b).length<=1000000000)(d:a<b)(x:18446744073709551616<=a)(w:World)(h:Hp)(g:G w h):CV 72 #[nv a,nv b] w h (.tuple #[nv (a/b),nv (a%b),.bool true]):=by
 have c:=sS g;have C:=(cj K).2.2;have J:=dh d;refine go Tryz.func72 [(0,nv a),(1,nv b)] rfl (aD (lA 2 25 (nc a) c (fun M w2 W c=>lA 3 25 (nc b) c (fun S U O c=>lA 4 25 ([uV 0,eS]) c (fun L V Q c=>lA 5 25 ([uV 0,eS]) c (fun H _ _ c=>lL c ae (ag (ab c [.o (nv b) 2 0 2] (au 12 c (ff b l _ _ c.g) (fun _ _ c=>?_))))))))));have D:(((nb b:Nat):Int) == (0:Int))=false:=fY oM;have z:=aq D;refine lB 13 D (am (cK (cQ (ab c [.v (qP M 1),.o (.string (hi a)) 3 1 1] (lV 18 qF ?_ (hr:=rb kR (g8 (em x))))))));refine lL c ae (lG 20 ?_);refine lG 21 (lG 22 (lL c [.v qF] (am (cK (cQ (ab c [.o (nv a) 3 0 2,.o (nv b) 2 0 2] (au 38 c (kN a b y l _ _ c.g) (fun _ _ c=>?_))))))));have ⟨I,B⟩:=dT (p:=(bP a b:Int)<(0:Int)) oM;refine lB 39 I (ar (cQ ?_));have u:=c;refine B5 2 [] [L,H] mixed c ai (eV 0 40 (.agg #[uV 0,eS]) (wP 1 41 [(3,0,2)] (nv a) u c ?_ (hM:=fun p F=>by obtain rfl:=vl.1 F;exact fun f=>by rcases g4.1 f with e|f;exact fv c.st (i:=3) (j:=1) kR kR kR e;rcases g4.1 f with e|f;exact fv c.st (i:=3) (j:=0) kR kR kR e;cases f)));refine bA c (fun _ _ c=>tP 2 1 0 ([uV 0,eS]) c (fun _ c=>?_) (hz:=fw (Is)));refine tP 3 0 0 (nc a) c (fun _ c=>?_) (hz:=fw (Iu _<|Is));exact tV 4 6 qT (tN (kX (c.ret [(1,0,2),(0,0,2)] (.tuple #[.agg #[uV 0,eS],nv a,qT]) (by have d:a<b:=(by rcases ep a b with h_|h_;exact h_;rcases fu h_ with e|e<;>omega);rw[zY d,yN d];rfl))))
theorem Gc (a b:Nat)(e:0<b)(d:(wds a).length<=1000000000)(c:(wds b).length<=1000000000)(w:World)(h:Hp)(g:G w h):CV 72 #[nv a,nv b] w h (.tuple #[nv (a/b),nv (a%b),.bool true]):=by
 rcases ep a b with hab|hab
 ·rcases ep a 18446744073709551616 with h1|h1
  ·rcases ep b 18446744073709551616 with h2|h2
   ·exact B4 a b e d c h1 h2 w h g
   ·exact E1 a b e d c hab h1 h2 w h g
  ·exact Fs a b e d c hab h1 w h g
 ·rcases ep b 18446744073709551616 with h2|h2
  ·rcases ep a 18446744073709551616 with h1|h1
   ·exact B4 a b e d c h1 h2 w h g
   ·exact FA a b e d c h1 h2 w h g
  ·exact ER a b e d c hab oM h2 w h g
theorem jt {z:Int}{b:Bool}{n:Nat}(a:ax z=b)(c:ac z=n):Value.agg #[.bool b,.int .u64 (lo n),.string (hi n)]=iv z:=by subst a c;rfl
theorem iZ {z:Int}{b:Bool}(a:ax z=b):iv z=Value.agg #[.bool b,.int .u64 (lo (ac z)),.string (hi (ac z))]:=(jt a rfl).symm
theorem nB (x y:Int):ck (ax x != ax y) (ac x*ac y)=x*y:=by
 rcases hx:ax x with _|_<;>rcases hy:ax y with _|_
 ·have h1:=bc hx
  have c:=bc hy;obtain ⟨a,rfl⟩:=Iv h1;obtain ⟨b,rfl⟩:=Iv c
  simp[ck,ac,Iw,Ix,Iy]
 ·have h1:=bc hx
  have c:=bp hy;obtain ⟨a,rfl⟩:=Iv h1;obtain ⟨b,d⟩:=Iv (a:=-y) oM;obtain rfl:y = -b:=by omega
  simp[ck,ac,Iw,Ix,Iy]
 ·have h1:=bp hx
  have c:=bc hy;obtain ⟨b,rfl⟩:=Iv c;obtain ⟨a,ha⟩:=Iv (a:=-x) oM;obtain rfl:x = -a:=by omega
  simp[ck,ac,Iw,Ix,Iy]
 ·have h1:=bp hx
  have c:=bp hy;obtain ⟨a,ha⟩:=Iv (a:=-x) oM;obtain ⟨b,d⟩:=Iv (a:=-y) oM;obtain rfl:x = -a:=by omega
  obtain rfl:y = -b:=by omega
  simp[ck,ac,Iw,Ix,Iy]
theorem jF {a b:Nat}:(wds (a+b)).length<=(wds a).length+(wds b).length+1:=by
 refine dW kD ?_;have h1:=cI a;have d:=cI b;have c:18446744073709551616^(wds a).length<=18446744073709551616^((wds a).length+(wds b).length):=Ay kD oM;have e:18446744073709551616^(wds b).length<=18446744073709551616^((wds a).length+(wds b).length):=Ay kD oM;rw[z1]
 omega
theorem oW {a b k:Nat}(ha:(wds a).length<=k)(c:(wds b).length<=k):(wds (a+b)).length<=k+1:=by
 refine dW kD ?_;have h1:=cI a;have e:=cI b;have d:18446744073709551616^(wds a).length<=18446744073709551616^k:=Ay kD ha;have f:18446744073709551616^(wds b).length<=18446744073709551616^k:=Ay kD c;rw[z1]
 omega
theorem cH {a b:Nat}:(wds (a*b)).length<=(wds a).length+(wds b).length:=by
 refine dW kD ?_;rw[A4];have h1:=cI a;have c:=cI b;exact e5 (Nat.mul_lt_mul'' h1 c) (Nat.le_refl _)
theorem aw {a b k:Nat}(h:a<=b)(c:(wds b).length<=k):(wds a).length<=k:=e4 (cn h) c
theorem vT (a:Nat)(w:World)(h:Hp)(g:G w h):CV 36 #[.bool false,nv a] w h (iv (ck false a)):=by
 have b:=sS g;refine go Tryz.func36 [(0,qF),(1,nv a)] rfl (aD (lA 3 25 (nc a) b (fun i w2 j b=>lA 4 27 ([qF,uV 0,eS]) b (fun c d f b=>ag (cR 8 [] mixed b ai ?_)))));exact eV 0 5 qF (eV 1 6 qF (eG 2 7 (eG 3 8 (eG 4 9 (eV 5 10 qF (eO 6 11 [(1,0,2)] (nv a) b (eV 7 12 (wX qF a) (bA b (fun l e b=>tP 8 0 0 (wC qF a) b (fun o b=>tN (kX (b.ret [(0,0,3)] (wX qF a) (jt (by rw[iL];rfl) (ei _ _))))))))))))))
theorem Dk (j:(wds 0).length<=1000000000)(w:World)(h:Hp)(g:G w h):CV 36 #[.bool true,nv 0] w h (iv (ck true 0)):=by
 have a:=sS g;have b:nb 0=0:=rfl;refine go Tryz.func36 [(0,qT),(1,nv 0)] rfl (aD (lA 3 25 (nc 0) a (fun l w2 o a=>lA 4 27 ([qF,uV 0,eS]) a (fun c d i a=>ag (cR 8 [] mixed a ai ?_)))));refine eV 0 5 qT (eV 1 6 qT (eO 2 7 [(1,0,2)] (nv 0) a (eO 6 11 [(1,0,2)] (nv 0) a (af 3 8 a (fun _ _ a=>ff 0 aM _ _ a.g) (fun p f a=>eV 4 9 qF ?_ (hv:=fun _=>rb (e:=decide ((0:Int)<((nb 0:Nat):Int))) kR (decide_eq_false oM)))))));exact eV 5 10 qF (eV 7 12 (wX qF 0) (bA a (fun u _ a=>tP 8 0 0 (wC qF 0) a (fun _ a=>tN (kX (a.ret [(0,0,3)] (wX qF 0) (jt (by rw[iL];rfl) (ei _ _))))))))
theorem CW (a:Nat)(ha:0<a)(l:(wds a).length<=1000000000)(w:World)(h:Hp)(g:G w h):CV 36 #[.bool true,nv a] w h (iv (ck true a)):=by
 have b:=sS g;have c:=(cj ha).2.2;refine go Tryz.func36 [(0,qT),(1,nv a)] rfl (aD (lA 3 25 (nc a) b (fun o w2 p b=>lA 4 27 ([qF,uV 0,eS]) b (fun d f j b=>ag (cR 8 [] mixed b ai ?_)))));refine eV 0 5 qT (eV 1 6 qT (eO 2 7 [(1,0,2)] (nv a) b (eO 6 11 [(1,0,2)] (nv a) b (af 3 8 b (fun _ _ b=>ff a aM _ _ b.g) (fun u i b=>eV 4 9 qT ?_ (hv:=fun _=>rb (e:=decide ((0:Int)<((nb a:Nat):Int))) kR (decide_eq_true oM)))))));exact eV 5 10 qT (eV 7 12 (wX qT a) (bA b (fun x _ b=>tP 8 0 0 (wC qT a) b (fun _ b=>tN (kX (b.ret [(0,0,3)] (wX qT a) (jt (by rw[iL];simpa using ha) (ei _ _))))))))
theorem fc (b:Bool)(a:Nat)(c:(wds a).length<=1000000000)(w:World)(h:Hp)(g:G w h):CV 36 #[.bool b,nv a] w h (iv (ck b a)):=by
 cases b
 ·exact vT a w h g
 ·rcases yW a with h0|h0
  ·subst h0;exact Dk c w h g
  ·exact CW a h0 c w h g
theorem G0 (z:Int)(h0 : -9223372036854775808<=z)(hz:z<0)(w:World)(h:Hp)(g:G w h):CV 59 #[iV z] w h (iv z):=by
 have a:=sS g;have d:ac z<=9223372036854775808:=by unfold ac;omega
 refine go Tryz.func59 [(0,iV z)] rfl (aD (lA 2 27 ([qF,uV 0,eS]) a (fun i w2 j a=>ag (ab a ae ?_))));have ⟨b,c⟩:=dT (p:=(z:Int)<(0:Int)) oM;refine lB 4 b (ar (ab a ae (lV 6 (mV (18446744073709551616-ac z)) ?_ (hr:=rU (z) kR (by rw[IntKind.wrap_u64];unfold ac;omega)))));refine lV 7 (mV (ac z)) ?_ (hr:=rU ((0-((18446744073709551616-ac z:Nat):Int))) kR (by rw[IntKind.wrap_u64];omega));exact au 8 a (Gi (ac z) oM _ _ a.g) (fun e f a=>lL a [.v (wX qT (ac z))] (lP 0 0 (wC qT (ac z)) a (fun l a=>ah a [(0,0,3)] (wX qT (ac z)) (jt (by simp[ax,hz]) rfl))))
theorem Gv (n:Nat)(h1:n<9223372036854775808)(w:World)(h:Hp)(g:G w h):CV 59 #[nV n] w h (iv (n:Int)):=by
 have a:=sS g;refine go Tryz.func59 [(0,nV n)] rfl (aD (lA 2 27 ([qF,uV 0,eS]) a (fun f w2 i a=>ag (ab a ae ?_))));have ⟨b,c⟩:=dF (p:=(n:Int)<(0:Int)) oM;refine lB 4 b (am (cK (ab a ae (lV 11 (mV n) ?_ (hr:=rU ((n:Int)) kR (bF oM oM))))));exact au 12 a (Gi n oM _ _ a.g) (fun d e a=>lL a [.v (wX qF n)] (lP 0 0 (wC qF n) a (fun j a=>ah a [(0,0,3)] (wX qF n) (jt (by simp[ax]) (by simp[ac])))))
theorem Hr (z:Int)(h0 : -9223372036854775808<=z)(h1:z<=9223372036854775807)(w:World)(h:Hp)(g:G w h):CV 59 #[iV z] w h (iv z):=by
 rcases Int.lt_or_le z 0 with hz|hz
 ·exact G0 z h0 hz w h g
 ·obtain ⟨n,rfl⟩:=Iv hz
  exact Gv n oM w h g
def d4(x y:Int):Int:=if x<y then -1 else if y<x then 1 else 0
theorem AD {x y:Int}(h:x<y):d4 x y = -1:=by simp[d4,h]
theorem Ae {x y:Int}(h:y<x):d4 x y=1:=by unfold d4;rw[if_neg oM,if_pos h]
theorem xS {x y:Int}(a:0<=x)(b:0<=y):d4 x y=bP (ac x) (ac y):=by
 unfold d4 bP ac
 have e1:(x<y)=(x.natAbs<y.natAbs):=by apply propext;omega
 have e2:(y<x)=(y.natAbs<x.natAbs):=by apply propext;omega
 simp only[e1,e2]
theorem By {x y:Int}(a:x<0)(b:y<0):d4 x y=bP (ac y) (ac x):=by
 unfold d4 bP ac
 have e1:(x<y)=(y.natAbs<x.natAbs):=by apply propext;omega
 have e2:(y<x)=(x.natAbs<y.natAbs):=by apply propext;omega
 simp only[e1,e2]
theorem vu (z:Int)(w:World)(h:Hp)(g:G w h):CV 75 #[iv z] w h (nv (ac z)):=by
 have a:=sS g;exact go Tryz.func75 [(0,iv z)] rfl (aD (lA 1 27 (ic z) a (fun b w2 f a=>lA 2 25 ([uV 0,eS]) a (fun c d e a=>aK (lL a [.v (qP b 1),.o (nv (ac z)) 1 1 2] (lP 0 0 (nc (ac z)) a (fun i a=>ah a [(0,0,2)] (nv (ac z)) rfl)))))))
theorem DC (z:Int)(hz:ax z=true)(w:World)(h:Hp)(g:G w h):CV 67 #[wX (.bool true) (ac z)] w h (iV z.sign):=by
 have a:=sS g;exact go Tryz.func67 [(0,wX qT (ac z))] rfl (aD (lA 1 27 (wC qT (ac z)) a (fun b w2 d a=>lL a ae (ag (kZ (ab a [.v (pB b),.o qT 0 0 1,.c] (ar (ab a ae (ah a [] (iV (-1)) (by rw[Iz (bp hz)]))))))))))
theorem Es (z:Int)(j:(wds (ac z)).length<=1000000000)(hz:ax z=false)(h0:0<ac z)(w:World)(h:Hp)(g:G w h):CV 67 #[wX (.bool false) (ac z)] w h (iV z.sign):=by
 have a:=sS g;have f:=(cj h0).2.2;refine go Tryz.func67 [(0,wX qF (ac z))] rfl (aD (lA 1 27 (wC qF (ac z)) a (fun e w2 l a=>lL a ae (ag (kZ (ab a [.v (pB e),.o qF 0 0 1,.c] (am (ab a [.v (qP e 1),.o (nv (ac z)) 0 1 2] (au 9 a (ff (ac z) aM _ _ a.g) (fun i u a=>?_))))))))));have ⟨b,d⟩:=dT (p:=(0:Int)<((nb (ac z):Nat):Int)) oM;exact lB 10 b (lL a ae (ar (ab a ae (ah a [] (iV 1) (by rw[IA (by have:=bc hz;unfold ac at h0;omega)])))))
theorem D6 (j:(wds (ac 0)).length<=1000000000)(w:World)(h:Hp)(g:G w h):CV 67 #[wX (.bool false) (ac 0)] w h (iV 0):=by
 have a:=sS g;have f:nb (ac 0)=0:=rfl;refine go Tryz.func67 [(0,wX qF (ac 0))] rfl (aD (lA 1 27 (wC qF (ac 0)) a (fun e w2 l a=>lL a ae (ag (kZ (ab a [.v (pB e),.o qF 0 0 1,.c] (am (ab a [.v (qP e 1),.o (nv (ac 0)) 0 1 2] (au 9 a (ff (ac 0) aM _ _ a.g) (fun i u a=>?_))))))))));have ⟨b,d⟩:=dF (p:=(0:Int)<((nb (ac 0):Nat):Int)) oM;exact lB 10 b (lL a ae (am (cK (ab a ae (ah a [] (iV 0) rfl)))))
theorem k9 (z:Int)(a:(wds (ac z)).length<=1000000000)(w:World)(h:Hp)(g:G w h):CV 67 #[iv z] w h (iV z.sign):=by
 rcases hz:ax z with _|_
 ·rw[iZ hz]
  rcases yW (ac z) with h0|h0
  ·have:z=0:=by unfold ac at h0;omega
   subst this;exact D6 a w h g
  ·exact Es z a hz h0 w h g
 ·rw[iZ hz];exact DC z hz w h g
theorem Fj (z:Int)(j:(wds (ac z)).length<=1000000000)(hz:ax z=false)(w:World)(h:Hp)(g:G w h):CV 80 #[wX (.bool false) (ac z)] w h (iv (-z)):=by
 have a:=sS g;exact go Tryz.func80 [(0,wX qF (ac z))] rfl (aD (lA 1 27 (wC qF (ac z)) a (fun b w2 l a=>lA 2 27 ([qF,uV 0,eS]) a (fun c d i a=>aK (lL a [.v (pB b),.o qF 1 0 1,.v qT,.v (qP b 1),.o (nv (ac z)) 1 1 2] (au 8 a (fc true (ac z) aM _ _ a.g) (fun p f a=>lP 0 0 (ic (ck true (ac z))) a (fun u a=>ah a [(0,0,3)] (iv (ck true (ac z))) (by have e:=rQ z;rw[hz] at e;exact congrArg iv e)))))))))
theorem FL (z:Int)(j:(wds (ac z)).length<=1000000000)(hz:ax z=true)(w:World)(h:Hp)(g:G w h):CV 80 #[wX (.bool true) (ac z)] w h (iv (-z)):=by
 have a:=sS g;exact go Tryz.func80 [(0,wX qT (ac z))] rfl (aD (lA 1 27 (wC qT (ac z)) a (fun b w2 l a=>lA 2 27 ([qF,uV 0,eS]) a (fun c d i a=>aK (lL a [.v (pB b),.o qT 1 0 1,.v qF,.v (qP b 1),.o (nv (ac z)) 1 1 2] (au 8 a (fc false (ac z) aM _ _ a.g) (fun p f a=>lP 0 0 (ic (ck false (ac z))) a (fun u a=>ah a [(0,0,3)] (iv (ck false (ac z))) (by have e:=rQ z;rw[hz] at e;exact congrArg iv e)))))))))
theorem F0 (z:Int)(a:(wds (ac z)).length<=1000000000)(w:World)(h:Hp)(g:G w h):CV 80 #[iv z] w h (iv (-z)):=by
 rcases hz:ax z with _|_<;>rw[iZ hz]
 ·exact Fj z a hz w h g
 ·exact FL z a hz w h g
theorem D2 (x y:Int)(i:(wds (ac x)).length<=1000000000)(j:(wds (ac y)).length<=1000000000)(e:ax x=false)(f:ax y=false)(w:World)(h:Hp)(g:G w h):CV 31 #[wX (.bool false) (ac x),wX (.bool false) (ac y)] w h (iV (d4 x y)):=by
 have a:=sS g;refine go Tryz.func31 [(0,wX qF (ac x)),(1,wX qF (ac y))] rfl (aD (lA 2 27 (wC qF (ac x)) a (fun b w2 z a=>lA 3 27 (wC qF (ac y)) a (fun d l u a=>lL a ae (ag (kZ (ab a [.v (pB b),.o qF 1 0 1,.c] (lG 9 ?_))))))));exact lG 10 (lL a [.v qF,.c] (am (ab a [.v (pB b),.o qF 1 0 1,.c] (am (ab a [.v (pB d),.o qF 0 0 1,.c] (am (cK (ab a [.v (qP b 1),.o (nv (ac x)) 1 1 2,.v (qP d 1),.o (nv (ac y)) 0 1 2] (au 27 a (kN (ac x) (ac y) aM aM _ _ a.g) (fun B p a=>lL a ae (ah a [] (iV (bP (ac x) (ac y))) (by rw[xS (bc e) (bc f)]))))))))))))
theorem Dv (x y:Int)(i:(wds (ac x)).length<=1000000000)(j:(wds (ac y)).length<=1000000000)(d:ax x=false)(e:ax y=true)(w:World)(h:Hp)(g:G w h):CV 31 #[wX (.bool false) (ac x),wX (.bool true) (ac y)] w h (iV (d4 x y)):=by
 have a:=sS g;refine go Tryz.func31 [(0,wX qF (ac x)),(1,wX qT (ac y))] rfl (aD (lA 2 27 (wC qF (ac x)) a (fun b w2 u a=>lA 3 27 (wC qT (ac y)) a (fun f l p a=>lL a ae (ag (kZ (ab a [.v (pB b),.o qF 1 0 1,.c] (lG 9 ?_))))))));exact lG 10 (lL a [.v qF,.c] (am (ab a [.v (pB b),.o qF 1 0 1,.c] (am (ab a [.v (pB f),.o qT 0 0 1,.c] (ar (ab a ae (ah a [] (iV 1) (by rw[Ae (by have:=bc d;have:=bp e;omega)])))))))))
theorem CJ (x y:Int)(i:(wds (ac x)).length<=1000000000)(j:(wds (ac y)).length<=1000000000)(d:ax x=true)(e:ax y=false)(w:World)(h:Hp)(g:G w h):CV 31 #[wX (.bool true) (ac x),wX (.bool false) (ac y)] w h (iV (d4 x y)):=by
 have a:=sS g;exact go Tryz.func31 [(0,wX qT (ac x)),(1,wX qF (ac y))] rfl (aD (lA 2 27 (wC qT (ac x)) a (fun b w2 u a=>lA 3 27 (wC qF (ac y)) a (fun f l p a=>lL a ae (ag (kZ (ab a [.v (pB b),.o qT 1 0 1,.c,.v (pB f),.o qF 0 0 1,.v qF,.c] (am (ab a [.v (pB b),.o qT 1 0 1,.c] (ar (ab a ae (ah a [] (iV (-1)) (by rw[AD (by have:=bp d;have:=bc e;omega)])))))))))))))
theorem Da (x y:Int)(i:(wds (ac x)).length<=1000000000)(j:(wds (ac y)).length<=1000000000)(e:ax x=true)(f:ax y=true)(w:World)(h:Hp)(g:G w h):CV 31 #[wX (.bool true) (ac x),wX (.bool true) (ac y)] w h (iV (d4 x y)):=by
 have a:=sS g;exact go Tryz.func31 [(0,wX qT (ac x)),(1,wX qT (ac y))] rfl (aD (lA 2 27 (wC qT (ac x)) a (fun d w2 z a=>lA 3 27 (wC qT (ac y)) a (fun b l u a=>lL a ae (ag (kZ (ab a [.v (pB d),.o qT 1 0 1,.c,.v (pB b),.o qT 0 0 1,.v qT,.c] (ar (ab a [.v (qP b 1),.o (nv (ac y)) 0 1 2,.v (qP d 1),.o (nv (ac x)) 1 1 2] (au 16 a (kN (ac y) (ac x) aM aM _ _ a.g) (fun B p a=>lL a ae (ah a [] (iV (bP (ac y) (ac x))) (by rw[By (bp e) (bp f)])))))))))))))
theorem vV (x y:Int)(a:(wds (ac x)).length<=1000000000)(b:(wds (ac y)).length<=1000000000)(w:World)(h:Hp)(g:G w h):CV 31 #[iv x,iv y] w h (iV (d4 x y)):=by
 rcases hx:ax x with _|_<;>rcases hy:ax y with _|_<;>rw[iZ hx,iZ hy]
 ·exact D2 x y a b hx hy w h g
 ·exact Dv x y a b hx hy w h g
 ·exact CJ x y a b hx hy w h g
 ·exact Da x y a b hx hy w h g
theorem Cx (x y:Int)(l:(wds (ac x)).length<=1000000000)(p:(wds (ac y)).length<=1000000000)(f:(wds (ac x+ac y)).length<=1000000000)(i:ax x=false)(d:ax y=false)(w:World)(h:Hp)(g:G w h):CV 34 #[wX (.bool false) (ac x),wX (.bool false) (ac y)] w h (iv (x+y)):=by
 have a:=sS g;have j:=bc i;have e:=bc d;refine go Tryz.func34 [(0,wX qF (ac x)),(1,wX qF (ac y))] rfl (aD (lA 2 27 (wC qF (ac x)) a (fun b w2 D a=>lA 3 27 (wC qF (ac y)) a (fun c B u a=>lA 4 27 ([qF,uV 0,eS]) a (fun F C z a=>ag (ab a [.v (pB b),.o qF 2 0 1,.v (pB c),.o qF 1 0 1,.v qT] (ar (cQ (cR 8 [] mixed a ai ?_)))))))));exact eV 0 14 (pB b) (eO 1 15 [(2,0,1)] qF a (eV 2 16 (qP b 1) (eO 3 17 [(2,1,2)] (nv (ac x)) a (eV 4 18 (qP c 1) (eO 5 19 [(1,1,2)] (nv (ac y)) a (af 6 20 a (fun _ _ a=>E3 (ac x) (ac y) aM aM _ _ a.g) (fun _ _ a=>af 7 21 a (fun _ _ a=>fc false ((ac x)+(ac y)) (by first|assumption|exact aw (IB _ _) aM) _ _ a.g) (fun _ _ a=>bA a (fun _ _ a=>tP 8 0 0 (ic (ck false ((ac x)+(ac y)))) a (fun _ a=>tN (kX (a.ret [(0,0,3)] (iv (ck false ((ac x)+(ac y)))) (congrArg iv (by unfold ck ac at *;simp;omega))))))))))))))
theorem xy (x y:Int)(z:(wds (ac x)).length<=1000000000)(B:(wds (ac y)).length<=1000000000)(j:(wds (ac x+ac y)).length<=1000000000)(p:ax x=false)(e:ax y=true)(l:ac y<=ac x)(w:World)(h:Hp)(g:G w h):CV 34 #[wX (.bool false) (ac x),wX (.bool true) (ac y)] w h (iv (x+y)):=by
 have a:=sS g;have u:=bc p;have i:=bp e;exact go Tryz.func34 [(0,wX qF (ac x)),(1,wX qT (ac y))] rfl (aD (lA 2 27 (wC qF (ac x)) a (fun b w2 I a=>lA 3 27 (wC qT (ac y)) a (fun d F C a=>lA 4 27 ([qF,uV 0,eS]) a (fun J H D a=>ag (ab a [.v (pB b),.o qF 2 0 1,.v (pB d),.o qT 1 0 1,.v qF] (am (cK (cQ (ab a [.v (qP b 1),.o (nv (ac x)) 2 1 2,.v (qP d 1),.o (nv (ac y)) 1 1 2] (au 27 a (x9 (ac x) (ac y) oM aM aM _ _ a.g) (fun _ _ a=>lL a [.c,.v (nv ((ac x)-(ac y))),.v qT] (lA 5 25 ([uV 0,eS]) a (fun f _ _ a=>lP 0 0 (nc ((ac x)-(ac y))) a (fun _ a=>lL a ae (aK (lL a ae (ar (ab a [.v (pB b),.o qF 3 0 1,.o (nv ((ac x)-(ac y))) 0 0 2] (au 34 a (fc false ((ac x)-(ac y)) (by first|assumption|exact aw (IB _ _) aM) _ _ a.g) (fun _ _ a=>lP 1 0 (ic (ck false ((ac x)-(ac y)))) a (fun _ a=>ah a [(1,0,3)] (iv (ck false ((ac x)-(ac y)))) (congrArg iv (by unfold ck ac at *;simp;omega))))))))))))))))))))))))
theorem Bc (x y:Int)(z:(wds (ac x)).length<=1000000000)(B:(wds (ac y)).length<=1000000000)(j:(wds (ac x+ac y)).length<=1000000000)(p:ax x=false)(e:ax y=true)(C:ac x<ac y)(w:World)(h:Hp)(g:G w h):CV 34 #[wX (.bool false) (ac x),wX (.bool true) (ac y)] w h (iv (x+y)):=by
 have a:=sS g;have u:=bc p;have i:=bp e;exact go Tryz.func34 [(0,wX qF (ac x)),(1,wX qT (ac y))] rfl (aD (lA 2 27 (wC qF (ac x)) a (fun d w2 J a=>lA 3 27 (wC qT (ac y)) a (fun b H D a=>lA 4 27 ([qF,uV 0,eS]) a (fun K I F a=>ag (ab a [.v (pB d),.o qF 2 0 1,.v (pB b),.o qT 1 0 1,.v qF] (am (cK (cQ (ab a [.v (qP d 1),.o (nv (ac x)) 2 1 2,.v (qP b 1),.o (nv (ac y)) 1 1 2] (au 27 a (Cb (ac x) (ac y) oM aM aM _ _ a.g) (fun _ _ a=>lL a [.c,.v (nv 0),.v qF] (lA 5 25 ([uV 0,eS]) a (fun f _ _ a=>lP 0 0 (nc 0) a (fun _ a=>lL a ae (aK (lL a ae (am (cK (ab a [.v (qP b 1),.o (nv (ac y)) 2 1 2,.v (qP d 1),.o (nv (ac x)) 3 1 2] (au 40 a (x9 (ac y) (ac x) oM aM aM _ _ a.g) (fun _ _ a=>lL a [.c,.v (nv ((ac y)-(ac x))),.v qT] (lA 7 25 ([uV 0,eS]) a (fun l _ _ a=>lP 0 0 (nc ((ac y)-(ac x))) a (fun _ a=>lL a ae (aK (lL a [.v (pB b),.o qT 3 0 1,.o (nv ((ac y)-(ac x))) 0 0 2] (au 46 a (fc true ((ac y)-(ac x)) (by first|assumption|exact aw (IB _ _) aM) _ _ a.g) (fun _ _ a=>lP 2 0 (ic (ck true ((ac y)-(ac x)))) a (fun _ a=>ah a [(2,0,3)] (iv (ck true ((ac y)-(ac x)))) (congrArg iv (by unfold ck ac at *;simp;omega))))))))))))))))))))))))))))))))
theorem xY (x y:Int)(z:(wds (ac x)).length<=1000000000)(B:(wds (ac y)).length<=1000000000)(j:(wds (ac x+ac y)).length<=1000000000)(p:ax x=true)(e:ax y=false)(l:ac y<=ac x)(w:World)(h:Hp)(g:G w h):CV 34 #[wX (.bool true) (ac x),wX (.bool false) (ac y)] w h (iv (x+y)):=by
 have a:=sS g;have u:=bp p;have i:=bc e;exact go Tryz.func34 [(0,wX qT (ac x)),(1,wX qF (ac y))] rfl (aD (lA 2 27 (wC qT (ac x)) a (fun b w2 I a=>lA 3 27 (wC qF (ac y)) a (fun d F C a=>lA 4 27 ([qF,uV 0,eS]) a (fun J H D a=>ag (ab a [.v (pB b),.o qT 2 0 1,.v (pB d),.o qF 1 0 1,.v qF] (am (cK (cQ (ab a [.v (qP b 1),.o (nv (ac x)) 2 1 2,.v (qP d 1),.o (nv (ac y)) 1 1 2] (au 27 a (x9 (ac x) (ac y) oM aM aM _ _ a.g) (fun _ _ a=>lL a [.c,.v (nv ((ac x)-(ac y))),.v qT] (lA 5 25 ([uV 0,eS]) a (fun f _ _ a=>lP 0 0 (nc ((ac x)-(ac y))) a (fun _ a=>lL a ae (aK (lL a ae (ar (ab a [.v (pB b),.o qT 3 0 1,.o (nv ((ac x)-(ac y))) 0 0 2] (au 34 a (fc true ((ac x)-(ac y)) (by first|assumption|exact aw (IB _ _) aM) _ _ a.g) (fun _ _ a=>lP 1 0 (ic (ck true ((ac x)-(ac y)))) a (fun _ a=>ah a [(1,0,3)] (iv (ck true ((ac x)-(ac y)))) (congrArg iv (by unfold ck ac at *;simp;omega))))))))))))))))))))))))
theorem Bw (x y:Int)(z:(wds (ac x)).length<=1000000000)(B:(wds (ac y)).length<=1000000000)(j:(wds (ac x+ac y)).length<=1000000000)(p:ax x=true)(e:ax y=false)(C:ac x<ac y)(w:World)(h:Hp)(g:G w h):CV 34 #[wX (.bool true) (ac x),wX (.bool false) (ac y)] w h (iv (x+y)):=by
 have a:=sS g;have u:=bp p;have i:=bc e;exact go Tryz.func34 [(0,wX qT (ac x)),(1,wX qF (ac y))] rfl (aD (lA 2 27 (wC qT (ac x)) a (fun d w2 J a=>lA 3 27 (wC qF (ac y)) a (fun b H D a=>lA 4 27 ([qF,uV 0,eS]) a (fun K I F a=>ag (ab a [.v (pB d),.o qT 2 0 1,.v (pB b),.o qF 1 0 1,.v qF] (am (cK (cQ (ab a [.v (qP d 1),.o (nv (ac x)) 2 1 2,.v (qP b 1),.o (nv (ac y)) 1 1 2] (au 27 a (Cb (ac x) (ac y) oM aM aM _ _ a.g) (fun _ _ a=>lL a [.c,.v (nv 0),.v qF] (lA 5 25 ([uV 0,eS]) a (fun f _ _ a=>lP 0 0 (nc 0) a (fun _ a=>lL a ae (aK (lL a ae (am (cK (ab a [.v (qP b 1),.o (nv (ac y)) 2 1 2,.v (qP d 1),.o (nv (ac x)) 3 1 2] (au 40 a (x9 (ac y) (ac x) oM aM aM _ _ a.g) (fun _ _ a=>lL a [.c,.v (nv ((ac y)-(ac x))),.v qT] (lA 7 25 ([uV 0,eS]) a (fun l _ _ a=>lP 0 0 (nc ((ac y)-(ac x))) a (fun _ a=>lL a ae (aK (lL a [.v (pB b),.o qF 3 0 1,.o (nv ((ac y)-(ac x))) 0 0 2] (au 46 a (fc false ((ac y)-(ac x)) (by first|assumption|exact aw (IB _ _) aM) _ _ a.g) (fun _ _ a=>lP 2 0 (ic (ck false ((ac y)-(ac x)))) a (fun _ a=>ah a [(2,0,3)] (iv (ck false ((ac y)-(ac x)))) (congrArg iv (by unfold ck ac at *;simp;omega))))))))))))))))))))))))))))))))
theorem CD (x y:Int)(l:(wds (ac x)).length<=1000000000)(p:(wds (ac y)).length<=1000000000)(f:(wds (ac x+ac y)).length<=1000000000)(i:ax x=true)(d:ax y=true)(w:World)(h:Hp)(g:G w h):CV 34 #[wX (.bool true) (ac x),wX (.bool true) (ac y)] w h (iv (x+y)):=by
 have a:=sS g;have j:=bp i;have e:=bp d;refine go Tryz.func34 [(0,wX qT (ac x)),(1,wX qT (ac y))] rfl (aD (lA 2 27 (wC qT (ac x)) a (fun b w2 D a=>lA 3 27 (wC qT (ac y)) a (fun c B u a=>lA 4 27 ([qF,uV 0,eS]) a (fun F C z a=>ag (ab a [.v (pB b),.o qT 2 0 1,.v (pB c),.o qT 1 0 1,.v qT] (ar (cQ (cR 8 [] mixed a ai ?_)))))))));exact eV 0 14 (pB b) (eO 1 15 [(2,0,1)] qT a (eV 2 16 (qP b 1) (eO 3 17 [(2,1,2)] (nv (ac x)) a (eV 4 18 (qP c 1) (eO 5 19 [(1,1,2)] (nv (ac y)) a (af 6 20 a (fun _ _ a=>E3 (ac x) (ac y) aM aM _ _ a.g) (fun _ _ a=>af 7 21 a (fun _ _ a=>fc true ((ac x)+(ac y)) (by first|assumption|exact aw (IB _ _) aM) _ _ a.g) (fun _ _ a=>bA a (fun _ _ a=>tP 8 0 0 (ic (ck true ((ac x)+(ac y)))) a (fun _ a=>tN (kX (a.ret [(0,0,3)] (iv (ck true ((ac x)+(ac y)))) (congrArg iv (by unfold ck ac at *;simp;omega))))))))))))))
theorem Ei (x y:Int)(l:(wds (ac x)).length<=1000000000)(o:(wds (ac y)).length<=1000000000)(i:(wds (ac x*ac y)).length<=1000000000)(d:ax x=false)(b:ax y=false)(w:World)(h:Hp)(g:G w h):CV 41 #[wX (.bool false) (ac x),wX (.bool false) (ac y)] w h (iv (x*y)):=by
 have a:=sS g;have j:=bc d;have f:=bc b;refine go Tryz.func41 [(0,wX qF (ac x)),(1,wX qF (ac y))] rfl (aD (lA 2 27 (wC qF (ac x)) a (fun e w2 C a=>lA 3 27 (wC qF (ac y)) a (fun c z p a=>lA 4 27 ([qF,uV 0,eS]) a (fun D B u a=>ag (cR 11 [] mixed a ai ?_))))));exact eV 0 5 (pB e) (eO 1 6 [(2,0,1)] qF a (eV 2 7 (pB c) (eO 3 8 [(1,0,1)] qF a (eV 4 9 qF (eV 5 10 (qP e 1) (eO 6 11 [(2,1,2)] (nv (ac x)) a (eV 7 12 (qP c 1) (eO 8 13 [(1,1,2)] (nv (ac y)) a (af 9 14 a (fun _ _ a=>ot (ac x) (ac y) aM aM _ _ a.g) (fun _ _ a=>af 10 15 a (fun _ _ a=>fc false ((ac x)*(ac y)) aM _ _ a.g) (fun _ _ a=>bA a (fun _ _ a=>tP 11 0 0 (ic (ck false ((ac x)*(ac y)))) a (fun _ a=>tN (kX (a.ret [(0,0,3)] (iv (ck false ((ac x)*(ac y)))) (by rw[<-nB x y,d,b];rfl))))))))))))))))
theorem CP (x y:Int)(l:(wds (ac x)).length<=1000000000)(o:(wds (ac y)).length<=1000000000)(i:(wds (ac x*ac y)).length<=1000000000)(d:ax x=false)(b:ax y=true)(w:World)(h:Hp)(g:G w h):CV 41 #[wX (.bool false) (ac x),wX (.bool true) (ac y)] w h (iv (x*y)):=by
 have a:=sS g;have j:=bc d;have f:=bp b;refine go Tryz.func41 [(0,wX qF (ac x)),(1,wX qT (ac y))] rfl (aD (lA 2 27 (wC qF (ac x)) a (fun e w2 C a=>lA 3 27 (wC qT (ac y)) a (fun c z p a=>lA 4 27 ([qF,uV 0,eS]) a (fun D B u a=>ag (cR 11 [] mixed a ai ?_))))));exact eV 0 5 (pB e) (eO 1 6 [(2,0,1)] qF a (eV 2 7 (pB c) (eO 3 8 [(1,0,1)] qT a (eV 4 9 qT (eV 5 10 (qP e 1) (eO 6 11 [(2,1,2)] (nv (ac x)) a (eV 7 12 (qP c 1) (eO 8 13 [(1,1,2)] (nv (ac y)) a (af 9 14 a (fun _ _ a=>ot (ac x) (ac y) aM aM _ _ a.g) (fun _ _ a=>af 10 15 a (fun _ _ a=>fc true ((ac x)*(ac y)) aM _ _ a.g) (fun _ _ a=>bA a (fun _ _ a=>tP 11 0 0 (ic (ck true ((ac x)*(ac y)))) a (fun _ a=>tN (kX (a.ret [(0,0,3)] (iv (ck true ((ac x)*(ac y)))) (by rw[<-nB x y,d,b];rfl))))))))))))))))
theorem CB (x y:Int)(l:(wds (ac x)).length<=1000000000)(o:(wds (ac y)).length<=1000000000)(i:(wds (ac x*ac y)).length<=1000000000)(d:ax x=true)(b:ax y=false)(w:World)(h:Hp)(g:G w h):CV 41 #[wX (.bool true) (ac x),wX (.bool false) (ac y)] w h (iv (x*y)):=by
 have a:=sS g;have j:=bp d;have f:=bc b;refine go Tryz.func41 [(0,wX qT (ac x)),(1,wX qF (ac y))] rfl (aD (lA 2 27 (wC qT (ac x)) a (fun e w2 C a=>lA 3 27 (wC qF (ac y)) a (fun c z p a=>lA 4 27 ([qF,uV 0,eS]) a (fun D B u a=>ag (cR 11 [] mixed a ai ?_))))));exact eV 0 5 (pB e) (eO 1 6 [(2,0,1)] qT a (eV 2 7 (pB c) (eO 3 8 [(1,0,1)] qF a (eV 4 9 qT (eV 5 10 (qP e 1) (eO 6 11 [(2,1,2)] (nv (ac x)) a (eV 7 12 (qP c 1) (eO 8 13 [(1,1,2)] (nv (ac y)) a (af 9 14 a (fun _ _ a=>ot (ac x) (ac y) aM aM _ _ a.g) (fun _ _ a=>af 10 15 a (fun _ _ a=>fc true ((ac x)*(ac y)) aM _ _ a.g) (fun _ _ a=>bA a (fun _ _ a=>tP 11 0 0 (ic (ck true ((ac x)*(ac y)))) a (fun _ a=>tN (kX (a.ret [(0,0,3)] (iv (ck true ((ac x)*(ac y)))) (by rw[<-nB x y,d,b];rfl))))))))))))))))
theorem DJ (x y:Int)(l:(wds (ac x)).length<=1000000000)(o:(wds (ac y)).length<=1000000000)(i:(wds (ac x*ac y)).length<=1000000000)(d:ax x=true)(b:ax y=true)(w:World)(h:Hp)(g:G w h):CV 41 #[wX (.bool true) (ac x),wX (.bool true) (ac y)] w h (iv (x*y)):=by
 have a:=sS g;have j:=bp d;have f:=bp b;refine go Tryz.func41 [(0,wX qT (ac x)),(1,wX qT (ac y))] rfl (aD (lA 2 27 (wC qT (ac x)) a (fun e w2 C a=>lA 3 27 (wC qT (ac y)) a (fun c z p a=>lA 4 27 ([qF,uV 0,eS]) a (fun D B u a=>ag (cR 11 [] mixed a ai ?_))))));exact eV 0 5 (pB e) (eO 1 6 [(2,0,1)] qT a (eV 2 7 (pB c) (eO 3 8 [(1,0,1)] qT a (eV 4 9 qF (eV 5 10 (qP e 1) (eO 6 11 [(2,1,2)] (nv (ac x)) a (eV 7 12 (qP c 1) (eO 8 13 [(1,1,2)] (nv (ac y)) a (af 9 14 a (fun _ _ a=>ot (ac x) (ac y) aM aM _ _ a.g) (fun _ _ a=>af 10 15 a (fun _ _ a=>fc false ((ac x)*(ac y)) aM _ _ a.g) (fun _ _ a=>bA a (fun _ _ a=>tP 11 0 0 (ic (ck false ((ac x)*(ac y)))) a (fun _ a=>tN (kX (a.ret [(0,0,3)] (iv (ck false ((ac x)*(ac y)))) (by rw[<-nB x y,d,b];rfl))))))))))))))))
theorem FY (x y:Int)(b:(wds (ac x)).length+(wds (ac y)).length<=999999999)(w:World)(h:Hp)(g:G w h):CV 34 #[iv x,iv y] w h (iv (x+y)):=by
 have a:(wds (ac x+ac y)).length<=1000000000:=e4 jF oM
 rcases hx:ax x with _|_<;>rcases hy:ax y with _|_<;>rw[iZ hx,iZ hy]
 ·exact Cx x y oM oM a hx hy w h g
 ·rcases ep (ac x) (ac y) with hc|hc
  ·exact Bc x y oM oM a hx hy hc w h g
  ·exact xy x y oM oM a hx hy hc w h g
 ·rcases ep (ac x) (ac y) with hc|hc
  ·exact Bw x y oM oM a hx hy hc w h g
  ·exact xY x y oM oM a hx hy hc w h g
 ·exact CD x y oM oM a hx hy w h g
theorem BU (x y:Int)(b:(wds (ac x)).length+(wds (ac y)).length<=1000000000)(w:World)(h:Hp)(g:G w h):CV 41 #[iv x,iv y] w h (iv (x*y)):=by
 have a:(wds (ac x*ac y)).length<=1000000000:=e4 cH oM
 rcases hx:ax x with _|_<;>rcases hy:ax y with _|_<;>rw[iZ hx,iZ hy]
 ·exact Ei x y oM oM a hx hy w h g
 ·exact CP x y oM oM a hx hy w h g
 ·exact CB x y oM oM a hx hy w h g
 ·exact DJ x y oM oM a hx hy w h g
theorem uU (n:Nat)(hl:(wds n).length<=1000000000)(w:World)(h:Hp)(g:G w h):CR 144 #[nv n] w h (fun v h1=>∃ A,v=.slice A ((nb n+7)/8) ((nb n+7)/8)/\SlO 1 lm 0 h1 A (e9 n ((nb n+7)/8))):=by
 have c:=sS g;have hnb:=lk n;have W:=lf n;refine go Tryz.func144 [(0,nv n)] rfl (aD (lA 1 25 (nc n) c (fun L w2 h3 c=>lL c ae (aK (lL c [.o (nv n) 0 0 2] (au 8 c (ff n hl _ _ c.g) (fun w4 h5 c=>bB 9 ((nb n:Nat)+7) ((nb n)+7) (lV 10 (nV (((nb n)+7)/8)) ?_ (hr:=ay (dl (t:=3) (u:=3) (x:=.tmp 9) (y:=.const (iV 8)) (k:=.i64) (a:=(((nb n)+7:Nat):Int)) (b:=(8:Int)) kR kR kR oM _) (db ((nb n)+7) 8 oM))))))))));refine lL c ae (aK (lL c ae (lK 12 5 (((nb n)+7)/8:Nat) 1 1 (.int .u8 0) lm 0 c (fun p w7 h8 c=>?_))));have K:(yL (((nb n)+7)/8:Nat) 0).length=(((nb n)+7)/8:Nat):=by simp
 refine lL c ae (aK (lL c [.o (nv n) 1 0 2] (lC 14 c (fD n oM _ _ c.g) ?_)));rintro _ _ zd c ⟨e,B,rfl,M,F⟩;replace c:=c.aS F;refine lL c ae (ag (ab c aE (a7 ?_)));refine bY _ (CG.loop (fun J Γ w_=>∃ (i:Nat)(l:List Nat)(H:Hp),J=((nb n+7)/8)-i/\Γ=[(2,sZ),(3,nV (((nb n)+7)/8)),(4,qS (sB p) (((nb n)+7)/8:Nat) (((nb n)+7)/8:Nat)),(5,qS e ((wds n).length) B),(15,nV (((nb n)+7)/8)),(16,nV i)]/\SS w h w_ H [⟨p,5,(l).flatMap lm⟩,⟨L,25,nc n⟩] [] [fun H=>SlO 1 aj 0 H e (wds n)]/\i<=((nb n+7)/8)/\l.length=((nb n+7)/8)/\(∀ j,j<i->l.getD (((nb n+7)/8)-1-j) 0=n/256^j%256)) _ ⟨0,yL (((nb n)+7)/8:Nat) 0,zd,rfl,rfl,c.to _ _,In _,K,(fun j V=>absurd V oM)⟩ ?_);rintro _ _ _ ⟨i,l,Z,O,rfl,c,hi,z,Q⟩;have X:=mU n (i/8);refine aD ?_;cases D:(decide ((i:Int)<((((nb n)+7)/8:Nat):Int)))
 .
  have zb:=oF D;refine lB 17 D (ag (cD (CG.exit ?_)))
  show CG _ _ _ _ _ _ _ _
  refine ab c aE (lN (kX ?_));have him:i=((nb n+7)/8):=by omega
  have I:l=e9 n ((nb n+7)/8):=pV z (fun j V=>Q j oM);rw[I] at c
  obtain ⟨_,c,C,S,U⟩:=c.pub 0;replace c:=(c.to [⟨L,25,nc n⟩] []).aS (SlO.of_flat (sz:=1) (f:=lm) (d:=0) (b:=p) (o:=0) (l:=e9 n ((nb n+7)/8)) (fun _=>rfl) C);exact c.ret [] (qS (sB p) (((nb n)+7)/8:Nat) (((nb n)+7)/8:Nat)) (⟨sB p,rfl,c.f.1⟩)
 have zb:=oT D;refine lB 17 D (ag (bZ (cK (cQ (kZ (ab c aE (lN (kQ (lL c aE (bB 21 ((((nb n)+7)/8:Nat)-1) ((((nb n)+7)/8:Nat)-1) ?_))))))))));refine lL c ae (bB 23 (((((nb n)+7)/8:Nat)-1:Nat)-(i:Nat)) (((((nb n)+7)/8:Nat)-1:Nat)-i) ?_);refine lL c aE (lV 26 (nV (i/8)) ?_ (hr:=ay (dl (t:=3) (u:=3) (x:=.tmp 25) (y:=.const (iV 8)) (k:=.i64) (a:=(i:Int)) (b:=(8:Int)) kR kR kR oM _) (db i 8 oM)));refine lX 27 e ((wds n).length) B 1 (i/8:Nat) (i/8) ((c.f.1).ok oM) (lH 28 (mV ((wds n).getD (i/8) 0)) c ((c.f.1).el (i/8) oM) (lL c ae (lV 30 (nV (i%8)) ?_ (hr:=ay (fC (t:=3) (u:=3) (x:=.tmp 29) (y:=.const (iV 8)) (k:=.i64) (a:=(i:Int)) (b:=(8:Int)) kR kR kR oM _) (dg i 8)))));refine bB 31 (8*(i%8:Nat)) (8*(i%8)) (lV 32 (mV (((wds n).getD (i/8) 0)/2^(8*(i%8)))) ?_ (hr:=fZ (t:=23) (u:=3) (x:=.tmp 28) (y:=.tmp 31) (ky:=.i64) (a:=((wds n).getD (i/8) 0)) (n:=(8*(i%8))) kR kR kR oM _));refine lV 33 (.int .u8 ((wds n).getD (i/8) 0/2^(8*(i%8))%256:Nat)) ?_ (hr:=ay (n:=IntKind.wrap .u8 (((wds n).getD (i/8) 0/2^(8*(i%8)):Nat):Int)) kR (xG _));refine lX 34 (sB p) (((nb n)+7)/8:Nat) (((nb n)+7)/8:Nat) 1 (((((nb n)+7)/8:Nat)-1:Nat)-i:Nat) (((((nb n)+7)/8:Nat)-1:Nat)-i:Nat) rfl (lW 0 l lm 1 (((((nb n)+7)/8:Nat)-1:Nat)-i:Nat) ((wds n).getD (i/8) 0/2^(8*(i%8))%256:Nat) c oM (fun _ c=>?_));have zc:((l).set (((((nb n)+7)/8:Nat)-1:Nat)-i:Nat) ((wds n).getD (i/8) 0/2^(8*(i%8))%256:Nat)).length=(((nb n)+7)/8:Nat):=by rw[Ic];exact z
 replace c:=c.to [⟨p,5,((l).set (((((nb n)+7)/8:Nat)-1:Nat)-i:Nat) ((wds n).getD (i/8) 0/2^(8*(i%8))%256:Nat)).flatMap lm⟩,⟨L,25,nc n⟩] [];refine lN (kQ (bB 35 ((i:Nat)+1) (i+1) ?_));refine lL c ae (lD ?_);intro a_ Y;refine ⟨_,_,?_,⟨i+1,(l).set (((((nb n)+7)/8:Nat)-1:Nat)-i:Nat) ((wds n).getD (i/8) 0/2^(8*(i%8))%256:Nat),Z,rfl,rfl,c.to _ _,oM,zc,(fT z oM Q (tT n i))⟩,Y.to _ kR⟩
 omega
theorem wS (n m:Nat)(A:Z9)(c:Nat)(hc:m<=c)(hm:m<=10000000000)(hn:n<256^m)(w:World)(h:Hp)(g:G w h)(hA:SlO 1 lm 0 h A (e9 n m)):CV 82 #[.slice A m c] w h (nv n):=by
 have e:=((sS g).aS hA);have hbl:=i4 n m;refine go Tryz.func82 [(0,qS A m c)] rfl (aD (lA 2 25 ([uV 0,eS]) e (fun z w2 h3 e=>aK (lL e [.c,.v (nV m)] (bB 7 ((m:Nat)+7) (m+7) ?_)))));refine lV 8 (nV ((m+7)/8)) ?_ (hr:=ay (dl (t:=3) (u:=3) (x:=.tmp 7) (y:=.const (iV 8)) (k:=.i64) (a:=((m+7:Nat):Int)) (b:=(8:Int)) kR kR kR oM _) (db (m+7) 8 oM));refine lK 9 23 ((m+7)/8) 1 8 (uV 0) aj 0 e (fun j w5 U e=>?_);have F:(yL ((m+7)/8) 0).length=((m+7)/8):=by simp
 refine lL e ae (ag (ab e [.c,.v (nV m),.c] (a7 ?_)));refine bY _ (CG.loop (fun H Γ Z=>∃ (i:Nat)(l:List Nat)(D:Hp),H=m-i/\Γ=[(0,qS A m c),(2,pB z),(3,qS (sB j) ((m+7)/8) ((m+7)/8)),(11,nV m),(12,nV i)]/\SS w h Z D [⟨j,23,(l).flatMap aj⟩,⟨z,25,[uV 0,eS]⟩] [] [fun D=>SlO 1 lm 0 D A (e9 n m)]/\i<=m/\l.length=(m+7)/8/\Wd l/\aA l=n%256^i) _ ⟨0,yL ((m+7)/8) 0,U,rfl,rfl,e.to _ _,In _,F,Wd.rep _,(by show ak _ _=_;rw[fa,Il,Nat.mod_one])⟩ ?_);rintro _ _ w8 ⟨i,l,h9,S,rfl,e,hi,M,C,inv⟩;have X:=jH n m (m-1-i);refine aD ?_;cases B:(decide ((i:Int)<(m:Int)))
 .
  have zb:=oF B;refine lB 13 B (ag (cD (CG.exit ?_)))
  show CG _ _ _ _ _ _ _ _
  refine aD ?_;have L:i=m:=by omega
  have hE:aA l=n:=by rw[inv,L];exact yN hn
  obtain ⟨_,e,p,O,Q⟩:=e.pub 0;replace e:=(e.to [⟨z,25,[uV 0,eS]⟩] []).aS (SlO.of_flat (sz:=1) (f:=aj) (d:=0) (b:=j) (o:=0) (l:=l) (fun _=>rfl) p);exact lL e ae (au 37 e (cJ (sB j) ((m+7)/8) (l) ((m+7)/8) (n) (by first|rfl|assumption|(simp;done)|(simp;omega)|omega) (C) (hE) sM sM _ _ e.g e.f.1) (fun _ _ e=>lP 0 0 (nc n) e (fun _ e=>ah e [(0,0,2)] (nv n) rfl)))
 have zb:=oT B;refine lB 13 B (ag (bZ (cK (cQ (kZ (ab e aE (lN (cR 19 [] mixed e ai ?_))))))));refine eV 0 15 (qS (sB j) ((m+7)/8) ((m+7)/8)) (eV 1 16 (nV i) (eV 2 17 (nV (i/8)) ?_ (hv:=fun _=>ay (dl (t:=3) (u:=3) (x:=.tmp 16) (y:=.const (iV 8)) (k:=.i64) (a:=(i:Int)) (b:=(8:Int)) kR kR kR oM _) (db i 8 oM))));refine eX 3 18 (sB j) ((m+7)/8) ((m+7)/8) 1 (i/8:Nat) (i/8) rfl (eQ 4 19 0 l aj 1 0 (i/8) (mV ((l).getD (i/8) 0)) e oM (eV 5 20 (qS A m c) (eV 6 21 (qS A m c) (eV 7 22 (nV m) (lr 8 23 ((m:Nat)-1) (m-1) (eV 9 24 (nV i) (lr 10 25 ((m-1:Nat)-(i:Nat)) ((m-1)-i) (eX 11 26 A m c 1 ((m-1)-i:Nat) ((m-1)-i) ((e.f.1).ok oM) (eH 12 27 (.int .u8 ((e9 n m).getD ((m-1)-i) 0:Nat)) e ((e.f.1).el ((m-1)-i) oM) (eV 13 28 (mV ((e9 n m).getD ((m-1)-i) 0)) ?_ (hv:=fun _=>rU ((((e9 n m).getD ((m-1)-i) 0:Nat):Int)) kR (bF oM oM))))))))))));refine eV 14 29 (nV i) (eV 15 30 (nV (i%8)) ?_ (hv:=fun _=>ay (fC (t:=3) (u:=3) (x:=.tmp 29) (y:=.const (iV 8)) (k:=.i64) (a:=(i:Int)) (b:=(8:Int)) kR kR kR oM _) (dg i 8)));refine lr 16 31 (8*(i%8:Nat)) (8*(i%8)) (eV 17 32 (mV (((e9 n m).getD ((m-1)-i) 0:Nat)*2^(8*(i%8))%18446744073709551616)) ?_ (hv:=fun _=>gE (t:=23) (u:=3) (x:=.tmp 28) (y:=.tmp 31) (ky:=.i64) (a:=((e9 n m).getD ((m-1)-i) 0:Nat)) (n:=(8*(i%8))) kR kR kR _));obtain ⟨I,J,K⟩:=sn oM inv (show (e9 n m).getD (m-1-i) 0=n/256^i%256 by rw[gQ n m _ oM,show m-1-(m-1-i)=i by omega]);have hlg:=C.get (i/8);refine eV 18 33 (mV (l.getD (i/8) 0+(e9 n m).getD (m-1-i) 0*2^(8*(i%8)))) ?_ (hv:=fun _=>ay (i9 (t:=23) (u:=23) (x:=.tmp 19) (y:=.tmp 32) (a:=((l).getD (i/8) 0)) (b:=(((e9 n m).getD ((m-1)-i) 0:Nat)*2^(8*(i%8))%18446744073709551616:Nat)) kR kR kR oM oM _) (by rw[I]));refine bA e (fun _ Y e=>tX 19 34 (sB j) ((m+7)/8) ((m+7)/8) 1 (i/8:Nat) (i/8) rfl (tW 20 0 l aj 1 (i/8) (l.getD (i/8) 0+(e9 n m).getD (m-1-i) 0*2^(8*(i%8)):Nat) e oM (fun _ e=>?_)));have W:((l).set (i/8) (l.getD (i/8) 0+(e9 n m).getD (m-1-i) 0*2^(8*(i%8)):Nat)).length=((m+7)/8):=by rw[Ic];exact M
 replace e:=e.to [⟨j,23,((l).set (i/8) (l.getD (i/8) 0+(e9 n m).getD (m-1-i) 0*2^(8*(i%8)):Nat)).flatMap aj⟩,⟨z,25,[uV 0,eS]⟩] [];refine tN (kQ (bB 35 ((i:Nat)+1) (i+1) ?_));refine lL e ae (lD ?_);intro a_ V;refine ⟨_,_,?_,⟨i+1,(l).set (i/8) (l.getD (i/8) 0+(e9 n m).getD (m-1-i) 0*2^(8*(i%8)):Nat),Y,rfl,rfl,e.to _ _,oM,W,(C.set _ J),K⟩,V.to _ kR⟩
 omega
theorem Er (n k:Nat)(D:(wds n).length<=1000000000)(hk:k<=65536)(w:World)(h:Hp)(g:G w h):CV 117 #[nv n,nV k] w h (nv (n*2^k)):=by
 have a:=sS g;refine go Tryz.func117 [(0,nv n),(1,nV k)] rfl (aD (lA 2 25 (nc n) a (fun M w2 L a=>lA 4 25 ([uV 0,eS]) a (fun I J F a=>aK (lL a ae (lV 6 (nV k) ?_ (hr:=ay (n:=if (65536:Int)<(k:Int) then (65536:Int) else (k:Int)) kR (if_neg oM))))))));refine lV 7 (nV k) ?_ (hr:=ay (n:=if (k:Int)>(-65536:Int) then (k:Int) else (-65536:Int)) kR (if_pos oM));refine lL a ae (ag (ab a ae ?_));have ⟨b,l⟩:=dF (p:=(k:Int)<(0:Int)) oM;refine lB 9 b (am (cK (ab a [.o (nv n) 1 0 2] (lC 17 a (fD n oM _ _ a.g) ?_))));rintro _ K H a ⟨d,e,rfl,u,c⟩;replace a:=a.aS c;refine lL a ae (lC 19 a (wI d e (wds n) (Wd.wds n) D k oM _ _ a.g a.f.1) ?_);rintro _ _ _ a ⟨C,B,z,rfl,x,y,i,j,hz⟩;replace a:=a.aS hz;exact au 20 a (cJ C B (z) z.length ((n*2^k)) (by first|rfl|assumption|(simp;done)|(simp;omega)|omega) (i) (by rw[j,aJ]) sM sM _ _ a.g a.f.1) (fun _ _ a=>lP 0 0 (nc (n*2^k)) a (fun _ a=>ah a [(0,0,2)] (nv (n*2^k)) rfl))
section
variable {P:Program}{Γ:bW}{o:Oper}
theorem E2 {t e:TypeId}{x ix:Operand}{b off sz len:Nat}{i:Int}{kk:IntKind}(k:Nat)(l:o.op=.indexAddr t x ix)(p:ev Γ x=.pointer (some ⟨b,off,none⟩))(hi:ev Γ ix=.int kk i)
    (h:P.underlying t=some (.array len e))(c:(P.info? e).map (·.size)=some sz)(hk:i=k)(u:k<len)(w:World) :
    (execOp (ev Γ) o).run P w=.ok (.value (.pointer (some ⟨b,off+k*sz,none⟩))) w:=by
  subst hk
  unfold execOp
  simp only[l]
  rw[p,hi];have d:P.elem t=e:=by unfold Program.elem;rw[h]
  have f:P.arrayLen t=len:=by unfold Program.arrayLen;rw[h]
  have h1:=run_indexAt_array (P:=P) w t ⟨b,off,none⟩ kk (k:Int) (by rw[d,f];exact h);rw[f,if_pos ⟨by omega,by omega⟩,d] at h1
  have j:(sizeOf e).run P w=.ok sz w:=by
    cases a:P.info? e with
    | none=>rw[a] at c;cases c
    | some i =>
      rw[a] at c
      simp at c
      simp[sizeOf,typeInfo,a,c]
  rw[j] at h1
  simp[h1,Result.andThen,Addr.add]
end
def Tz (n k m:Nat):Prop:=n=2^k*m/\m%2=1
theorem CY {x:Nat}(h0:x≠0)(h:x<18446744073709551616):∃ m,Tz x (Lib.ctz 64 x) m/\Lib.ctz 64 x<64:=by
 unfold Lib.ctz
 rw[if_neg h0];obtain ⟨m,e,a⟩:=Lib.ctzFrom_spec 64 x oM h;exact ⟨2*m+1,⟨e,by omega⟩,a⟩
theorem Tz.odd_pos {n k m:Nat}(h:Tz n k m):0<m:=by have:=h.2;omega
theorem Tz.word {n i x k m r:Nat}(e:n=18446744073709551616^i*(x+18446744073709551616*r))(t:Tz x k m)(hk:k<64):Tz n (64*i+k) (m+2^(64-k)*r):=by
 obtain ⟨b,c⟩:=t;refine ⟨?_,?_⟩
 ·have a:(18446744073709551616:Nat)=2^k*2^(64-k):=by rw[<-A4,show k+(64-k)=64 by omega]
  have e1:(18446744073709551616:Nat)^i=2^(64*i):=by rw[A7]
  rw[e,e1,b]
  conv=>lhs;rw[a]
  rw[A4,z8 (2^k),<-z7,<-z8]
 ·obtain ⟨j,hj⟩:∃ j,64-k=j+1:=⟨63-k,by omega⟩
  rw[hj,z1,z2 (2^j) 2,z8]
  omega
theorem Tz.uniq {n k m c f:Nat}(a:Tz n k m)(b:Tz n c f):k=c/\m=f:=by
 obtain ⟨i,o⟩:=a;obtain ⟨j,u⟩:=b
 have key:∀ {k m c f:Nat},2^k*m=2^c*f->m%2=1->c<=k:=fun {k m c f} e l=>by
  rcases ep k c with h|h
  ·exfalso
   obtain ⟨d,rfl⟩:∃ d,c=k+(d+1):=⟨c-k-1,by omega⟩;rw[A4,z8] at e
   have e2:=IC (Aw k) e;rw[z1,z2 (2^d) 2,z8] at e2
   omega
  ·exact h
 have h1:=key (i.symm.trans j) o;have x:=key (j.symm.trans i) u;have p:k=c:=by omega
 subst p;exact ⟨rfl,IC (Aw k) (i.symm.trans j)⟩
theorem nO {x y:Nat}(a:y%2=1):ID (2*x) y=ID x y:=by
 have b:Nat.Coprime 2 y:=by
  unfold Nat.Coprime
  rw[Nat.gcd_rec,a];rfl
 exact b.gcd_mul_left_cancel x
theorem eE {x y:Nat}(a:y%2=1):∀ k,ID (2^k*x) y=ID x y
  | 0=>by simp
  | k+1=>by
    rw[z1,z2 (2^k) 2,z8,nO a];exact eE a k
theorem wH {x y k l m n:Nat}(a:Tz x k m)(b:Tz y l n):ID x y=ID m n*2^min k l:=by
 obtain ⟨f,i⟩:=a;obtain ⟨e,c⟩:=b;subst f e
 rcases IE k l with h|h
 ·rw[Ag h]
  obtain ⟨d,rfl⟩:∃ d,l=k+d:=⟨l-k,by omega⟩;rw[A4,z8,IF,Io m,eE i,Io n,z2]
 ·rw[HA h]
  obtain ⟨d,rfl⟩:∃ d,k=l+d:=⟨k-l,by omega⟩;rw[A4,z8,IF,eE c,z2]
theorem rj {x y k m:Nat}(b:y<x)(a:y%2=1)(t:Tz (x-y) k m):ID m y=ID x y:=by
 rw[<-eE a k,<-t.1];have e:=Nat.gcd_add_self_left (m:=y) (n:=x-y);rw[show x-y+y=x by omega] at e
 exact e.symm
theorem SlO.win {α:Type}{f:α->List Value}{d:α}{h:Hp}{b:Nat}{l:List α}(hf:∀ x,(f x).length=1)(i:Seg h b 0 (l.flatMap f))(o n:Nat):SlO 1 f d h (some ⟨b,o,none⟩) ((l.drop o).take n):=by
  have a:=i.part o ((l.drop o).take n).length;rw[yH] at a
  have e:∀ (l:List α) (o n:Nat),((l.flatMap f).drop o).take ((l.drop o).take n).length=((l.drop o).take n).flatMap f:=by
    have e1:∀ (l:List α),(l.flatMap f).length=l.length:=fun l=>by
      induction l with
      | nil=>rfl
      | cons x l ih=>rw[yv,List.length_append,hf,ih,List.length_cons];omega
    have c:∀ (l:List α) (o:Nat),(l.flatMap f).drop o=(l.drop o).flatMap f:=fun l=>by
      induction l with
      | nil=>intro o;simp
      | cons x l ih =>
        intro o;cases o with
        | zero=>rfl
        | succ o =>
          rw[yv,List.drop_append,hf,Ii (by rw[hf];omega),List.nil_append,List.drop_succ_cons,H4];exact ih o
    have et:∀ (l:List α) (n:Nat),(l.flatMap f).take n=(l.take n).flatMap f:=fun l=>by
      induction l with
      | nil=>intro n;simp
      | cons x l ih =>
        intro n;cases n with
        | zero=>rfl
        | succ n =>
          rw[yv,List.take_append,hf,G1 (by rw[hf];omega),List.take_succ_cons,yv,H4,ih n]
    intro l o n;rw[c,et,Af]
    congr 1
    rcases IE n (l.drop o).length with h|h
    . rw[Ag h]
    . rw[HA h,yz,G1 h]
  rw[e] at a
  exact SlO.of_flat hf a
def Tab (h:Hp):Prop:=Seg h 2 0 (Lib.deBruijn64tab.map fun k=>Value.int .u8 ((k:Nat):Int))
theorem Tab.gw {h a:Hp}(t:Tab h)(u:Gw h a):Tab a:=Seg.gw t u
theorem SS.aWt {w0 w:World}{h0 h:Hp}{B:List Bx}{R:List Rw}{F:List (Hp->Prop)}(s:SS w0 h0 w h B R F)(p:Tab h):SS w0 h0 w h B R ((fun h=>Tab h)::F):=s.add (K:=fun h=>Tab h) p
theorem Tab.at {h:Hp}(t:Tab h){k i:Nat}(e:i<64/\Lib.deBruijn64tab.getD i 0=k):Seg h 2 i [.int .u8 ((k:Nat):Int)]:=by
 have a:=Seg.part t i 1;obtain ⟨hi,rfl⟩:=e;rw[yH] at a
 have b:i<Lib.deBruijn64tab.length:=by show i<64;exact hi
 have e1:((Lib.deBruijn64tab.map fun k=>Value.int .u8 ((k:Nat):Int)).drop i).take 1=[.int .u8 ((Lib.deBruijn64tab.getD i 0:Nat):Int)]:=by
  rw[List.drop_eq_getElem_cons (by simpa using b)]
  simp[b]
 rw[e1] at a
 exact a
theorem G6 {s:Result Next}{b z:Nat}{w:World}(h:s=.ok (.value (.pointer (some ⟨b,0+z*1,none⟩))) w):s=.ok (.value (.pointer (some ⟨b,z,none⟩))) w:=by rw[h,Ga,yH]
theorem vX {l:List Nat}(a:Wd l)(b:l.length<=(wds (aA l)).length):wds (aA l)=l:=by
 have e:=nQ a;have h1:(wds (aA l)).length=min (tl l l.length) l.length:=by rw[e,Af]
 have c:=ia l l.length;rw[e,G1 oM]
theorem GT {l:List Nat}(a:Wd l):aA l<256^(8*l.length):=by
 have:=bS a;rw[A7];exact this
theorem Cy {a b:Nat}(h:wds a=wds b):a=b:=by rw[<-aJ a,<-aJ b,h]
theorem vB {l:List Nat}{i:Nat}(h:i<l.length)(h0:l.getD i 0=0){n:Nat}(inv:n=18446744073709551616^i*ak 18446744073709551616 (l.drop i)):n=18446744073709551616^(i+1)*ak 18446744073709551616 (l.drop (i+1)):=by
 rw[inv,eT _ h,h0,yH,z1,z8]
theorem FN (x:Nat)(o:x≠0)(B:x<18446744073709551616)(w:World)(h:Hp)(g:G w h)(D:Tab h):CV 145 #[mV x] w h (nV (Lib.ctz 64 x)):=by
 have d:=((sS g).add (K:=fun F=>Tab F) D);obtain ⟨j,hk⟩:=Lib.lowest_bit 64 x o B;have c:=Lib.deBruijn64_at _ hk
 generalize Lib.ctz 64 x=k at *
 generalize hp:2^k=p at *
 obtain ⟨y,hy⟩:∃ y,p*285870213051353865%18446744073709551616=y:=⟨_,rfl⟩;rw[hy] at c
 obtain ⟨z,hz⟩:∃ z,y/288230376151711744=z:=⟨_,rfl⟩;rw[hz] at c
 refine go Tryz.func145 [(0,mV x)] rfl (ab d ae (ag (ab d ae ?_)));have l:((x:Int) == (0:Int))=false:=fY oM;have C:=aq l;refine lB 4 l (am (cK (ab d aE (lV 7 (mV (18446744073709551616-x)) ?_ (hr:=rU ((0-(x:Int))) kR (by rw[IntKind.wrap_u64];omega))))));refine lV 8 (mV p) ?_ (hr:=ay (n:=bits .and .u64 (x:Int) ((18446744073709551616-x:Nat):Int)) kR (by rw[bits_and_u64_nat _ _ B oM];exact congrArg _ j));refine lV 9 (mV y) ?_ (hr:=rU (((p:Int)*285870213051353865)) kR ((kh p 285870213051353865).trans (congrArg _ hy)));refine lV 10 (mV z) ?_ (hr:=ay (fZ (t:=23) (u:=157) (x:=.tmp 9) (y:=.const (uV 58)) (ky:=.u64) (a:=y) (n:=58) kR kR kR oM _) (congrArg _ (by rw[show (2:Nat)^58=288230376151711744 from rfl];exact hz)));refine lV 11 (qP 2 z) ?_ (hr:=G6 (E2 (t:=230) (e:=5) (x:=.global 2) (ix:=.tmp 10) (b:=2) (off:=0) (sz:=1) (len:=64) (kk:=.u64) (i:=(z:Int)) z kR kR kR kR kR rfl c.1 _));refine lH 12 (.int .u8 (k:Int)) d (Tab.at d.f.1 c) (lV 13 (nV k) ?_ (hr:=rS ((k:Int)) kR (mP oM oM)));exact lL d ae (ah d [] (nV k) rfl)
theorem qm (A:Z9)(c:Nat)(l:List Nat)(n:Nat)(S:l.length=n)(y:Wd l)(J:0<aA l)(Q:l.length<=1000000000)(w:World)(h:Hp)(g:G w h)(z:Tab h)(F:SlO 1 aj 0 h A l):CR 112 #[.slice A n c] w h (fun v _=>∃ k m:Nat,v=nV k/\Tz (aA l) k m/\k/64<l.length):=by
 have a:=(((sS g).add (K:=fun b=>Tab b) z).aS F);refine go Tryz.func112 [(0,qS A n c)] rfl (ab a ae (aK (lL a ae (ag (kZ ?_)))));refine bY _ (CG.loop (fun u Γ D=>∃ (i:Nat)(b:Hp),u=l.length-i/\Γ=[(0,qS A n c),(2,iV 0),(3,nV i)]/\SS w h D b [] [] [fun b=>SlO 1 aj 0 b A l,fun b=>Tab b]/\i<=l.length/\aA l=18446744073709551616^i*ak 18446744073709551616 (l.drop i)) _ ⟨0,h,rfl,rfl,a.to _ _,In _,(by show ak _ _=_;rw[Il,Nat.one_mul,yx])⟩ ?_);rintro _ _ w1 ⟨i,C,H,rfl,a,hi,inv⟩;have j:i<l.length:=by rcases ep i l.length with b|b;exact b;rw[Ii b] at inv;simp[ak] at inv;omega
 refine cQ (ab a aE (lX 6 A n c 1 (i:Nat) i ((a.f.1).ok oM) ?_));refine lH 7 (mV (l.getD i 0)) a ((a.f.1).el i oM) ?_;cases d:(((l.getD i 0:Nat):Int) == (0:Int))
 .
  have e:=aq d;refine lB 8 d (am (CG.exit ?_))
  show CG _ _ _ _ _ _ _ _
  refine ab a ae (lI 12 (64*(i:Nat)) ?_);refine lL a aE (lX 15 A n c 1 (i:Nat) i ((a.f.1).ok oM) ?_);refine lH 16 (mV (l.getD i 0)) a ((a.f.1).el i oM) (au 17 a (FN (l.getD i 0) oM (y.get i) _ _ a.g a.f.2.1) (fun M I a=>?_));obtain ⟨O,p,o⟩:=CY (x:=l.getD i 0) oM (y.get i);exact lI 18 ((64*(i:Nat))+(Lib.ctz 64 (l.getD i 0):Nat)) (lL a ae (ah a [] (iV ((64*(i:Nat))+(Lib.ctz 64 (l.getD i 0):Nat))) (⟨_,_,rfl,Tz.word (by rw[inv,eT _ j]) p o,by omega⟩)))
 have e:=eq_of_beq d;refine lB 8 d (ar (cK (kZ (kQ (lL a ae (bB 10 ((i:Nat)+1) (i+1) ?_))))));refine lL a ae (lD ?_);intro L B;refine ⟨_,_,?_,⟨i+1,C,rfl,rfl,a.to _ _,oM,(vB j oM inv)⟩,B.to _ kR⟩
 omega
theorem B3 (A:Z9)(c:Nat)(l:List Nat)(n:Nat)(I:l.length=n)(H:l.length<=1099511627776)(F:l.length<=c)(w:World)(h:Hp)(g:G w h)(z:SlO 1 aj 0 h A l):CV 146 #[.slice A n c] w h (.slice A (tl l n) c):=by
 have a:=((sS g).aS z);refine go Tryz.func146 [(0,qS A n c)] rfl (ab a ae (ag (kZ ?_)));refine bY _ (CG.loop (fun p Γ y=>∃ (m:Nat)(j:Hp),p=m/\Γ=[(2,sZ),(0,qS A m c)]/\SS w h y j [] [] [fun j=>SlO 1 aj 0 j A l]/\m<=n/\tl l n=tl l m) _ ⟨n,h,rfl,rfl,a.to _ _,nR _,rfl⟩ ?_);rintro _ _ w1 ⟨m,x,B,rfl,a,D,o⟩;refine cQ (ab a [.c,.v (nV m)] ?_);cases d:(decide ((0:Int)<(m:Int)))
 .
  have i:=oF d;refine lB 5 d (lL a ae (lG 7 ?_));refine lG 8 (lG 9 (lG 10 (lG 11 (lG 12 (lG 13 (lL a [.v qF] (am (CG.exit ?_))))))))
  show CG _ _ _ _ _ _ _ _
  exact ab a aE (ah a [] (qS A m c) (by rw[o,ma oM]))
 have i:=oT d;refine lB 5 d (lL a [.c,.c,.c,.v (nV m)] (bB 10 ((m:Nat)-1) (m-1) ?_));refine lX 11 A m c 1 (m-1:Nat) (m-1) ((a.f.1).ok oM) (lH 12 (mV (l.getD (m-1) 0)) a ((a.f.1).el (m-1) oM) ?_);cases b:(((l.getD (m-1) 0:Nat):Int) == (0:Int))
 .
  have e:=aq b;refine lB 13 b (lL a [.v qF] (am (CG.exit ?_)))
  show CG _ _ _ _ _ _ _ _
  exact ab a aE (ah a [] (qS A m c) (by rw[o,ma oM]))
 have e:=eq_of_beq b;refine lB 13 b (lL a [.v qT] (ar (cK (kZ (kQ (lL a [.c,.c,.v (nV m)] (bB 18 ((m:Nat)-1) (m-1) ?_)))))));refine lT 19 A m c 1 (m-1:Nat) (m-1) (lL a ae (lD ?_));intro C u;refine ⟨_,_,?_,⟨m-1,x,rfl,rfl,a.to _ _,oM,(by rw[o];exact wm oM oM)⟩,u.to _ kR⟩
 omega
theorem vi (A:Z9)(c:Nat)(D:Z9)(d:Nat)(x y n e:Nat)(hn:(wds x).length=n)(I:(wds y).length=e)(U:(wds x).length<=1000000000)(W:(wds y).length<=1000000000)(w:World)(h:Hp)(g:G w h)(Q:SlO 1 aj 0 h A (wds x))(S:SlO 1 aj 0 h D (wds y)):CV 114 #[.slice A n c,.slice D e d] w h (iV (bP x y)):=by
 have a:=(((sS g).aS Q).aS S);refine go Tryz.func114 [(0,qS A n c),(1,qS D e d)] rfl (ab a ae (ag (ab a [.c,.v (nV n),.c,.v (nV e)] ?_)));cases j:((n:Int) != (e:Int))
 .
  have B:=aI j;refine lB 10 j (am (cK (cQ (ab a [.c,.v (nV n)] (lV 18 (iV ((n:Int)-1)) ?_ (hr:=rS (((n:Nat)-1)) kR ((fW oM oM).trans oM)))))));refine lL a ae (a7 ?_);refine bY _ (CG.loop (fun H Γ O=>∃ (m:Nat)(u:Hp),H=m/\Γ=[(0,qS A n c),(1,qS D e d),(5,iV ((m:Int)-1))]/\SS w h O u [] [] [fun u=>SlO 1 aj 0 u D (wds y),fun u=>SlO 1 aj 0 u A (wds x)]/\m<=n/\(wds x).length=(wds y).length/\(wds x).drop m=(wds y).drop m) _ ⟨n,h,rfl,rfl,a.to _ _,nR _,oM,(by rw[Ii oM,Ii oM])⟩ ?_);rintro _ _ w2 ⟨m,h3,V,rfl,a,Y,b,i⟩;refine cQ (ab a ae ?_);cases l:(decide ((0:Int)<=((m:Int)-1:Int)))
  .
   have z:=oF l;refine lB 20 l (am (CG.exit ?_))
   show CG _ _ _ _ _ _ _ _
   exact ab a ae (ah a [] (iV 0) (by rw[gT (Cy (by rw[show m=0 by omega] at i;simpa using i))]))
  have z:=oT l;refine lB 20 l (ar (cK (cQ (kZ (cQ (cR 9 [] mixed a ai ?_))))));refine eV 0 23 (qS A n c) (eV 1 24 (iV ((m:Int)-1)) (eX 2 25 A n c 1 ((m:Int)-1) (m-1) ((a.f.2.1).ok oM) (eH 3 26 (mV ((wds x).getD (m-1) 0)) a ((a.f.2.1).el (m-1) oM) (eV 4 27 (qS D e d) (eV 5 28 (iV ((m:Int)-1)) (eX 6 29 D e d 1 ((m:Int)-1) (m-1) ((a.f.1).ok oM) (eH 7 30 (mV ((wds y).getD (m-1) 0)) a ((a.f.1).el (m-1) oM) ?_)))))));cases o:((((wds x).getD (m-1) 0:Nat):Int) != (((wds y).getD (m-1) 0:Nat):Int))
  .
   have p:=aI o;refine eB 8 31 o (bA a (fun Z J a=>tN (cD (cK (kQ (lL a ae (lV 22 (iV (((m-1:Nat):Int)-1)) ?_ (hr:=rS ((((m:Int)-1)-1)) kR ((fW oM oM).trans oM)))))))));refine lL a ae (lD ?_);intro X K;refine ⟨_,_,?_,⟨m-1,J,rfl,rfl,a.to _ _,oM,b,(eJ (k:=m-1) b oM (by rw[show m-1+1=m by omega];exact i) oM)⟩,K.to _ kR⟩
   omega
  have p:=aU o;refine eB 8 31 o (bA a (fun _ _ a=>tN (bZ (cQ (cQ (cR 9 [] mixed a ai ?_))))));refine eV 0 32 (qS A n c) (eV 1 33 (iV ((m:Int)-1)) (eX 2 34 A n c 1 ((m:Int)-1) (m-1) ((a.f.2.1).ok oM) (eH 3 35 (mV ((wds x).getD (m-1) 0)) a ((a.f.2.1).el (m-1) oM) (eV 4 36 (qS D e d) (eV 5 37 (iV ((m:Int)-1)) (eX 6 38 D e d 1 ((m:Int)-1) (m-1) ((a.f.1).ok oM) (eH 7 39 (mV ((wds y).getD (m-1) 0)) a ((a.f.1).el (m-1) oM) ?_)))))));cases F:(decide ((((wds x).getD (m-1) 0:Nat):Int)<(((wds y).getD (m-1) 0:Nat):Int)))
  .
   have L:=oF F;exact eB 8 40 F (bA a (fun _ _ a=>tN (cD (cK (ab a ae (ah a [] (iV 1) (by rw[<-jP (k:=m-1) b oM (by rw[show m-1+1=m by omega];exact i) oM,eD oM])))))))
  have L:=oT F;exact eB 8 40 F (bA a (fun _ _ a=>tN (bZ (ab a ae (ah a [] (iV (-1)) (by rw[<-jP (k:=m-1) b oM (by rw[show m-1+1=m by omega];exact i) oM,dh oM]))))))
 have B:=aU j;refine lB 10 j (ar (cQ (ab a [.c,.v (nV n),.c,.v (nV e)] ?_)));cases C:(decide ((n:Int)<(e:Int)))
 .
  have M:=oF C;exact lB 15 C (am (cK (ab a ae (ah a [] (iV 1) (by rw[eD (fx oM)])))))
 have M:=oT C;exact lB 15 C (ar (ab a ae (ah a [] (iV (-1)) (by rw[dh (fx oM)]))))
theorem uk (n:Nat)(hn:0<n)(hl:(wds n).length<=1000000000)(w:World)(h:Hp)(g:G w h):CR 111 #[nv n] w h (fun v h1=>xD h h1 v (wds n)):=by
 have e:=sS g;have hnb:=lk n;have Z:=lf n;have hbl:=i4 n ((nb n+7)/8);have V:=(cj hn).2.2;refine go Tryz.func111 [(0,nv n)] rfl (aD (lA 1 25 (nc n) e (fun Q w2 h3 e=>lL e ae (aK (lL e [.o (nv n) 0 0 2] (lC 7 e (uU n hl _ _ e.g) ?_))))));rintro _ w4 h5 e ⟨C,rfl,hb⟩;replace e:=e.aS hb;refine lL e ae (aK (lL e [.c,.v (nV ((nb n+7)/8))] (bB 10 ((((nb n+7)/8):Nat)+7) ((((nb n+7)/8):Nat)+7) ?_)));refine lV 11 (nV (((((nb n+7)/8):Nat)+7:Nat)/8)) ?_ (hr:=ay (dl (t:=3) (u:=3) (x:=.tmp 10) (y:=.const (iV 8)) (k:=.i64) (a:=(((((nb n+7)/8):Nat)+7:Nat):Int)) (b:=(8:Int)) kR kR kR oM _) (db ((((nb n+7)/8):Nat)+7:Nat) 8 oM));refine lK 12 23 (((((nb n+7)/8):Nat)+7:Nat)/8:Nat) 1 8 (uV 0) aj 0 e (fun j w7 Y e=>?_);have K:(yL (((((nb n+7)/8):Nat)+7:Nat)/8:Nat) 0).length=(((((nb n+7)/8):Nat)+7:Nat)/8:Nat):=by simp
 refine lL e ae (ag (ab e [.c,.v (nV ((nb n+7)/8)),.c] (a7 ?_)));refine bY _ (CG.loop (fun J Γ w_=>∃ (i:Nat)(l:List Nat)(I:Hp),J=((nb n+7)/8)-i/\Γ=[(2,sZ),(3,qS C ((nb n+7)/8) ((nb n+7)/8)),(4,qS (sB j) (((((nb n+7)/8):Nat)+7:Nat)/8:Nat) (((((nb n+7)/8):Nat)+7:Nat)/8:Nat)),(14,nV ((nb n+7)/8)),(15,nV i)]/\SS w h w_ I [⟨j,23,(l).flatMap aj⟩,⟨Q,25,nc n⟩] [] [fun I=>SlO 1 lm 0 I C (e9 n ((nb n+7)/8))]/\i<=((nb n+7)/8)/\l.length=(((nb n+7)/8)+7)/8/\Wd l/\aA l=n%256^i) _ ⟨0,yL (((((nb n+7)/8):Nat)+7:Nat)/8:Nat) 0,Y,rfl,rfl,e.to _ _,In _,K,Wd.rep _,(by show ak _ _=_;rw[fa,Il,Nat.mod_one])⟩ ?_);rintro _ _ _ ⟨i,l,_,W,rfl,e,hi,z,H,inv⟩;have hbi:=jH n ((nb n+7)/8) (((nb n+7)/8)-1-i);refine aD ?_;cases F:(decide ((i:Int)<((((nb n+7)/8):Nat):Int)))
 .
  have zb:=oF F;refine lB 16 F (ag (cD (CG.exit ?_)))
  show CG _ _ _ _ _ _ _ _
  refine ab e aE (lN (kX ?_));have S:i=((nb n+7)/8):=by omega
  have X:aA l=n:=by rw[inv,S];exact yN (vQ n)
  have U:l=wds n:=by rw[<-X];exact (vX H (by rw[z,X];omega)).symm
  rw[U] at e
  obtain ⟨_,e,D,B,p⟩:=e.pub 0;replace e:=(e.to [⟨Q,25,nc n⟩] []).aS (SlO.of_flat (sz:=1) (f:=aj) (d:=0) (b:=j) (o:=0) (l:=wds n) (fun _=>rfl) D);exact e.ret [] (qS (sB j) (((((nb n+7)/8):Nat)+7:Nat)/8:Nat) (((((nb n+7)/8):Nat)+7:Nat)/8:Nat)) (⟨j,(by rw[show (((nb n+7)/8)+7)/8=(wds n).length by omega]),B,p,e.f.1⟩)
 have zb:=oT F;refine lB 16 F (ag (bZ (cK (cQ (kZ (ab e aE (lN (cR 19 [] mixed e ai ?_))))))));refine eV 0 18 (qS (sB j) (((((nb n+7)/8):Nat)+7:Nat)/8:Nat) (((((nb n+7)/8):Nat)+7:Nat)/8:Nat)) (eV 1 19 (nV i) (eV 2 20 (nV (i/8)) ?_ (hv:=fun _=>ay (dl (t:=3) (u:=3) (x:=.tmp 19) (y:=.const (iV 8)) (k:=.i64) (a:=(i:Int)) (b:=(8:Int)) kR kR kR oM _) (db i 8 oM))));refine eX 3 21 (sB j) (((((nb n+7)/8):Nat)+7:Nat)/8:Nat) (((((nb n+7)/8):Nat)+7:Nat)/8:Nat) 1 (i/8:Nat) (i/8) rfl (eQ 4 22 0 l aj 1 0 (i/8) (mV ((l).getD (i/8) 0)) e oM (eV 5 23 (qS C ((nb n+7)/8) ((nb n+7)/8)) (eV 6 24 (qS C ((nb n+7)/8) ((nb n+7)/8)) (eV 7 25 (nV ((nb n+7)/8)) (lr 8 26 ((((nb n+7)/8):Nat)-1) ((((nb n+7)/8):Nat)-1) (eV 9 27 (nV i) (lr 10 28 (((((nb n+7)/8):Nat)-1:Nat)-(i:Nat)) (((((nb n+7)/8):Nat)-1:Nat)-i) (eX 11 29 C ((nb n+7)/8) ((nb n+7)/8) 1 (((((nb n+7)/8):Nat)-1:Nat)-i:Nat) (((((nb n+7)/8):Nat)-1:Nat)-i:Nat) ((e.f.1).ok oM) (eH 12 30 (.int .u8 ((e9 n ((nb n+7)/8)).getD (((((nb n+7)/8):Nat)-1:Nat)-i:Nat) 0:Nat)) e ((e.f.1).el (((((nb n+7)/8):Nat)-1:Nat)-i:Nat) oM) (eV 13 31 (mV ((e9 n ((nb n+7)/8)).getD (((((nb n+7)/8):Nat)-1:Nat)-i:Nat) 0)) ?_ (hv:=fun _=>rU ((((e9 n ((nb n+7)/8)).getD (((((nb n+7)/8):Nat)-1:Nat)-i:Nat) 0:Nat):Int)) kR (bF oM oM))))))))))));refine eV 14 32 (nV i) (eV 15 33 (nV (i%8)) ?_ (hv:=fun _=>ay (fC (t:=3) (u:=3) (x:=.tmp 32) (y:=.const (iV 8)) (k:=.i64) (a:=(i:Int)) (b:=(8:Int)) kR kR kR oM _) (dg i 8)));refine lr 16 34 (8*(i%8:Nat)) (8*(i%8)) (eV 17 35 (mV (((e9 n ((nb n+7)/8)).getD (((((nb n+7)/8):Nat)-1:Nat)-i:Nat) 0:Nat)*2^(8*(i%8))%18446744073709551616)) ?_ (hv:=fun _=>gE (t:=23) (u:=3) (x:=.tmp 31) (y:=.tmp 34) (ky:=.i64) (a:=((e9 n ((nb n+7)/8)).getD (((((nb n+7)/8):Nat)-1:Nat)-i:Nat) 0:Nat)) (n:=(8*(i%8))) kR kR kR _));obtain ⟨L,M,O⟩:=sn oM inv (show (e9 n ((nb n+7)/8)).getD (((nb n+7)/8)-1-i) 0=n/256^i%256 by rw[gQ n ((nb n+7)/8) _ oM,show ((nb n+7)/8)-1-(((nb n+7)/8)-1-i)=i by omega]);have hlg:=H.get (i/8);refine eV 18 36 (mV (l.getD (i/8) 0+(e9 n ((nb n+7)/8)).getD (((nb n+7)/8)-1-i) 0*2^(8*(i%8)))) ?_ (hv:=fun _=>ay (i9 (t:=23) (u:=23) (x:=.tmp 22) (y:=.tmp 35) (a:=((l).getD (i/8) 0)) (b:=(((e9 n ((nb n+7)/8)).getD (((((nb n+7)/8):Nat)-1:Nat)-i:Nat) 0:Nat)*2^(8*(i%8))%18446744073709551616:Nat)) kR kR kR oM oM _) (by rw[L]));refine bA e (fun _ zd e=>tX 19 37 (sB j) (((((nb n+7)/8):Nat)+7:Nat)/8:Nat) (((((nb n+7)/8):Nat)+7:Nat)/8:Nat) 1 (i/8:Nat) (i/8) rfl (tW 20 0 l aj 1 (i/8) (l.getD (i/8) 0+(e9 n ((nb n+7)/8)).getD (((nb n+7)/8)-1-i) 0*2^(8*(i%8)):Nat) e oM (fun _ e=>?_)));have zc:((l).set (i/8) (l.getD (i/8) 0+(e9 n ((nb n+7)/8)).getD (((nb n+7)/8)-1-i) 0*2^(8*(i%8)):Nat)).length=(((((nb n+7)/8):Nat)+7:Nat)/8:Nat):=by rw[Ic];exact z
 replace e:=e.to [⟨j,23,((l).set (i/8) (l.getD (i/8) 0+(e9 n ((nb n+7)/8)).getD (((nb n+7)/8)-1-i) 0*2^(8*(i%8)):Nat)).flatMap aj⟩,⟨Q,25,nc n⟩] [];refine tN (kQ (bB 38 ((i:Nat)+1) (i+1) ?_));refine lL e ae (lD ?_);intro a_ ka;refine ⟨_,_,?_,⟨i+1,(l).set (i/8) (l.getD (i/8) 0+(e9 n ((nb n+7)/8)).getD (((nb n+7)/8)-1-i) 0*2^(8*(i%8)):Nat),zd,rfl,rfl,e.to _ _,oM,zc,(H.set _ M),O⟩,ka.to _ kR⟩
 omega
theorem BK (A:Z9)(c:Nat)(l:List Nat)(n:Nat)(hn:l.length=n)(H:Wd l)(hl:l.length<=1000000000)(w:World)(h:Hp)(g:G w h)(hA:SlO 1 aj 0 h A l):CV 116 #[.slice A n c] w h (nv (aA l)):=by
 have e:=((sS g).aS hA);refine go Tryz.func116 [(0,qS A n c)] rfl (aD (lA 2 25 ([uV 0,eS]) e (fun D w2 h3 e=>aK (lL e [.c,.v (nV n)] (bB 7 (8*(n:Nat)) (8*n) ?_)))));refine lK 8 5 (8*n) 1 1 (.int .u8 0) lm 0 e (fun B w5 V e=>?_);have K:(yL (8*n) 0).length=(8*n):=by simp
 refine lL e ae (ag (ab e [.c,.v (nV (8*n)),.c] (a7 ?_)));refine bY _ (CG.loop (fun L Γ w_=>∃ (i:Nat)(z:List Nat)(I:Hp),L=8*n-i/\Γ=[(0,qS A n c),(2,pB D),(3,qS (sB B) (8*n) (8*n)),(10,nV (8*n)),(11,nV i)]/\SS w h w_ I [⟨B,5,(z).flatMap lm⟩,⟨D,25,[uV 0,eS]⟩] [] [fun I=>SlO 1 aj 0 I A l]/\i<=8*n/\z.length=8*n/\(∀ j,j<i->z.getD (8*n-1-j) 0=aA l/256^j%256)) _ ⟨0,yL (8*n) 0,V,rfl,rfl,e.to _ _,In _,K,(fun j U=>absurd U oM)⟩ ?_);rintro _ _ w8 ⟨i,z,Z,S,rfl,e,hi,p,O⟩;have W:=H.get (i/8);refine aD ?_;cases F:(decide ((i:Int)<(((8*n):Nat):Int)))
 .
  have zb:=oF F;refine lB 12 F (ag (cD (CG.exit ?_)))
  show CG _ _ _ _ _ _ _ _
  refine ab e ae ?_;have him:i=8*n:=by omega
  have J:z=e9 (aA l) (8*n):=pV p (fun j U=>O j oM);rw[J] at e
  obtain ⟨_,e,C,M,Q⟩:=e.pub 0;replace e:=(e.to [⟨D,25,[uV 0,eS]⟩] []).aS (SlO.of_flat (sz:=1) (f:=lm) (d:=0) (b:=B) (o:=0) (l:=e9 (aA l) (8*n)) (fun _=>rfl) C);exact au 33 e (wS (aA l) (8*n) (sB B) (8*n) oM oM (by have:=GT H;rwa [hn] at this) _ _ e.g e.f.1) (fun _ _ e=>lP 0 0 (nc (aA l)) e (fun _ e=>ah e [(0,0,2)] (nv (aA l)) rfl))
 have zb:=oT F;refine lB 12 F (ag (bZ (cK (cQ (kZ (ab e aE (lN (kQ (lL e [.c,.c,.v (nV (8*n))] (bB 17 (((8*n):Nat)-1) ((8*n)-1) ?_))))))))));refine lL e ae (bB 19 (((8*n)-1:Nat)-(i:Nat)) (((8*n)-1)-i) ?_);refine lL e aE (lV 22 (nV (i/8)) ?_ (hr:=ay (dl (t:=3) (u:=3) (x:=.tmp 21) (y:=.const (iV 8)) (k:=.i64) (a:=(i:Int)) (b:=(8:Int)) kR kR kR oM _) (db i 8 oM)));refine lX 23 A n c 1 (i/8:Nat) (i/8) ((e.f.1).ok oM) (lH 24 (mV (l.getD (i/8) 0)) e ((e.f.1).el (i/8) oM) (lL e ae (lV 26 (nV (i%8)) ?_ (hr:=ay (fC (t:=3) (u:=3) (x:=.tmp 25) (y:=.const (iV 8)) (k:=.i64) (a:=(i:Int)) (b:=(8:Int)) kR kR kR oM _) (dg i 8)))));refine bB 27 (8*(i%8:Nat)) (8*(i%8)) (lV 28 (mV ((l.getD (i/8) 0)/2^(8*(i%8)))) ?_ (hr:=fZ (t:=23) (u:=3) (x:=.tmp 24) (y:=.tmp 27) (ky:=.i64) (a:=(l.getD (i/8) 0)) (n:=(8*(i%8))) kR kR kR oM _));refine lV 29 (.int .u8 (l.getD (i/8) 0/2^(8*(i%8))%256:Nat)) ?_ (hr:=ay (n:=IntKind.wrap .u8 ((l.getD (i/8) 0/2^(8*(i%8)):Nat):Int)) kR (xG _));refine lX 30 (sB B) (8*n) (8*n) 1 (((8*n)-1)-i:Nat) (((8*n)-1)-i:Nat) rfl (lW 0 z lm 1 (((8*n)-1)-i:Nat) (l.getD (i/8) 0/2^(8*(i%8))%256:Nat) e oM (fun _ e=>?_));have Y:((z).set (((8*n)-1)-i:Nat) (l.getD (i/8) 0/2^(8*(i%8))%256:Nat)).length=(8*n):=by rw[Ic];exact p
 replace e:=e.to [⟨B,5,((z).set (((8*n)-1)-i:Nat) (l.getD (i/8) 0/2^(8*(i%8))%256:Nat)).flatMap lm⟩,⟨D,25,[uV 0,eS]⟩] [];refine lN (kQ (bB 31 ((i:Nat)+1) (i+1) ?_));refine lL e ae (lD ?_);intro a_ X;refine ⟨_,_,?_,⟨i+1,(z).set (((8*n)-1)-i:Nat) (l.getD (i/8) 0/2^(8*(i%8))%256:Nat),Z,rfl,rfl,e.to _ _,oM,Y,(fT p oM O (oY H i))⟩,X.to _ kR⟩
 omega
def win (l:List Nat)(o n:Nat):List Nat:=(l.drop o).take n
theorem bw {l:List Nat}{o n:Nat}(h:o+n<=l.length):(win l o n).length=n:=by unfold win;rw[Af,HT];omega
theorem qU {l:List Nat}{o n j:Nat}(h:j<n):(win l o n).getD j 0=l.getD (o+j) 0:=by unfold win;rw[ir h,br]
theorem jS {l:List Nat}{o n i x:Nat}(hi:i<n):win (l.set (o+i) x) o n=(win l o n).set i x:=by
 unfold win
 rw[List.drop_set,if_neg oM,IG,show o+i-o=i by omega]
theorem vf {l:List Nat}{o n q:Nat}:(win l o n).drop q=win l (o+q) (n-q):=by
 unfold win;rw[List.drop_take,List.drop_drop]
theorem ph {l:List Nat}{o n m:Nat}(h:m<=n):(win l o n).take m=win l o m:=by
 unfold win;rw[List.take_take,Ag h]
theorem qJ (l:List Nat)(n:Nat)(h:l.length<=n):win l 0 n=l:=by unfold win;rw[yx,G1 h]
theorem Wd.win {l:List Nat}(h:Wd l)(o n:Nat):Wd (win l o n):=Dg.take (Dg.drop h o) n
theorem rx {Z W:List Nat}{i p d a:Nat}(hi:i<Z.length)(inv:2^p*ak 18446744073709551616 (Z.take i)+a=ak 18446744073709551616 (W.take i)+18446744073709551616^i*(W.getD i 0%2^p))
  (c:2^p*d+W.getD i 0%2^p=W.getD i 0+18446744073709551616*(W.getD (i+1) 0%2^p)) :
  2^p*ak 18446744073709551616 ((Z.set i d).take (i+1))+a=ak 18446744073709551616 (W.take (i+1))+18446744073709551616^(i+1)*(W.getD (i+1) 0%2^p):=by
 have e1:=aW 18446744073709551616 (Z.set i d) i;have e2:(Z.set i d).take i=Z.take i:=by rw[IG,List.set_eq_of_length_le];rw[Af];omega
 rw[e2,bv hi,if_pos rfl] at e1
 have e:=aW 18446744073709551616 W i;have h:=congrArg (18446744073709551616^i * ·) c
 simp only[z7] at h
 rw[e1,e,z1,z7];have f:2^p*(18446744073709551616^i*d)=18446744073709551616^i*(2^p*d):=by ac_rfl
 have b:18446744073709551616^i*18446744073709551616*(W.getD (i+1) 0%2^p)=18446744073709551616^i*(18446744073709551616*(W.getD (i+1) 0%2^p)):=by ac_rfl
 rw[f,b]
 omega
theorem uI {X:List Nat}(d:Wd X){k m:Nat}(t:Tz (aA X) k m)(hk:k/64<X.length):aA (X.drop (k/64))=2^(k%64)*m/\(X.drop (k/64)).getD 0 0%2^(k%64)=0:=by
 have h1:aA (X.drop (k/64))=2^(k%64)*m:=by
  rw[l5 d oM,t.1,u6 k,z8,IH _ (Nat.pow_pos kD)]
 refine ⟨h1,?_⟩
 have c:aA (X.drop (k/64))=(X.drop (k/64)).getD 0 0+18446744073709551616*ak 18446744073709551616 ((X.drop (k/64)).drop 1):=by
  have:=eT 18446744073709551616 (l:=X.drop (k/64)) (k:=0) (by rw[HT];omega)
  rwa [yx] at this
 have b:(18446744073709551616:Nat)=2^(k%64)*2^(64-k%64):=by rw[<-A4,show k%64+(64-k%64)=64 by omega]
 rw[h1] at c
 have a:(2^(k%64)*m)%2^(k%64)=0:=Nat.mul_mod_right _ _;rw[c] at a
 conv at a=>lhs;rw[b]
 rw[z8,Nat.add_mul_mod_self_left] at a
 exact a
theorem Dn {Z W:List Nat}{p m:Nat}(a:W.length<=Z.length)(inv:2^p*ak 18446744073709551616 (Z.take Z.length)+0=ak 18446744073709551616 (W.take Z.length)+18446744073709551616^Z.length*(W.getD Z.length 0%2^p))(e:aA W=2^p*m):aA Z=m:=by
 rw[yz,G1 a,ci a,Ie,Ah,yw,yw] at inv
 have e2:ak 18446744073709551616 W=2^p*m:=e;rw[e2] at inv
 exact IC (Aw p) inv
theorem pp {l X:List Nat}{q i x N:Nat}(a:q+i<l.length)(h:∀ j,i<=j->j<N->l.getD (q+j) 0=X.getD j 0):∀ j,i+1<=j->j<N->(l.set (q+i) x).getD (q+j) 0=X.getD j 0:=fun j h1 b=>by
 rw[bv a,if_neg oM];exact h j oM b
theorem rC (rb:Nat)(C:List Nat)(o n c x:Nat)(hx:0<x)(hl0:C.length<=1000000000)(I:o+n<=C.length)(hnc:n<=c)(H:Wd C)(J:win C o n=wds x)(w:World)(h:Hp)(g:G w h)(ho:Own w rb 23 (C.flatMap aj))(hj:h[rb]?=some aY)(tb:Tab h):Calls Tryz.prog 113 #[.slice (some ⟨rb,o,none⟩) n c] w (dN rb w h fun v w' _=>∃ z:List Nat,∃ o' n' c':Nat,v=.slice (some ⟨rb,o',none⟩) n' c'/\z.length=C.length/\Wd z/\o'+n'<=z.length/\n'<=c'/\(∃ k m:Nat,Tz x k m/\win z o' n'=wds m)/\Own w' rb 23 (z.flatMap aj)):=by
 have B:UpM [rb] w h w h:=UpM.refl g;obtain ⟨wz,hz,e⟩:=SS.at_ g ho hj;have bd:C.length=C.length:=rfl;replace e:=(e.add (K:=fun S=>Tab S) tb);refine go Tryz.func113 [(0,qS (some ⟨rb,o,none⟩) n c)] rfl (ab e ae (aK (lL e ae (Bb 7 0 e (fun _ g_ f_ Q=>qm (some ⟨rb,o,none⟩) c (win C o n) n (bw I) (H.win _ _) (by rw[J,aJ];exact hx) (by rw[bw I];omega) _ _ g_ (f_.1) (SlO.win (f:=aj) (d:=0) (b:=rb) (l:=C) (fun _=>rfl) Q o n)) ?_))));rintro _ w1 h2 u3 e ⟨k,m,rfl,O,hkn⟩;replace B:=B.trans (u3.m _);rw[bw I] at hkn
 have hX:=H.win o n;obtain ⟨L,M⟩:=uI hX O (by rw[bw I];omega);rw[vf] at L M
 obtain ⟨X,hXd⟩:∃ X,X=win C (o+k/64) (n-k/64):=⟨_,rfl⟩;rw[<-hXd] at L M
 have hXl:X.length=n-k/64:=by rw[hXd];exact bw oM
 have hXW:Wd X:=by rw[hXd];exact H.win _ _
 have hXg:∀ j,j<n-k/64->X.getD j 0=C.getD (o+k/64+j) 0:=fun j hj=>by rw[hXd];exact qU hj
 refine lL e ae (aK (lL e aE (lV 10 (nV (k/64)) ?_ (hr:=ay (dl (t:=3) (u:=3) (x:=.tmp 9) (y:=.const (iV 64)) (k:=.i64) (a:=(k:Int)) (b:=(64:Int)) kR kR kR oM _) (db k 64 oM)))));refine HE 11 rb o n c 1 (k/64:Nat) (k/64) (o+(k/64)) (lL e ae (aK (lL e ae (lV 13 (nV (k%64)) ?_ (hr:=ay (fC (t:=3) (u:=3) (x:=.tmp 12) (y:=.const (iV 64)) (k:=.i64) (a:=(k:Int)) (b:=(64:Int)) kR kR kR oM _) (dg k 64))))));refine lL e ae (ag (ab e [.c,.v (nV (n-(k/64))),.c] (a7 ?_)));refine bY _ (CG.loop (fun μ_ Γ w_=>∃ (i:Nat)(l:List Nat)(S:Hp),μ_=(n-k/64)-i/\Γ=[(0,qS (some ⟨rb,(o+(k/64)),none⟩) (n-(k/64)) (c-(k/64))),(2,sZ),(4,nV (k%64)),(15,nV (n-(k/64))),(16,nV i)]/\SS wz hz w_ S [⟨rb,23,(l).flatMap aj⟩] [] [fun S=>Tab S]/\i<=n-k/64/\l.length=C.length/\Wd l/\2^(k%64)*ak 18446744073709551616 ((win l (o+k/64) (n-k/64)).take i)+0=ak 18446744073709551616 (X.take i)+18446744073709551616^i*(X.getD i 0%2^(k%64))/\(∀ j,i<=j->j<n-k/64->l.getD (o+k/64+j) 0=X.getD j 0)/\UpM [rb] w h w_ S) _ ⟨0,C,h2,rfl,rfl,e.to _ _,In _,rfl,H,(by rw[M];simp[ak]),(fun j _ hj=>(hXg j hj).symm),B⟩ ?_);rintro _ _ w4 ⟨i,l,h5,hm6,rfl,e,hi,hll,hW,inv,F,B⟩;refine aD ?_;cases D:(decide ((i:Int)<((n-(k/64):Nat):Int)))
 .
  have bb:=oF D;refine lB 17 D (ag (cD (CG.exit ?_)))
  show CG _ _ _ _ _ _ _ _
  refine ab e ae (Bb 47 0 e (fun _ g_ f_ Q=>B3 (some ⟨rb,(o+k/64),none⟩) (c-(k/64)) (win l (o+k/64) (n-k/64)) (n-k/64) (bw oM) (by rw[bw oM];omega) (by rw[bw oM];omega) _ _ g_ (SlO.win (f:=aj) (d:=0) (b:=rb) (l:=l) (fun _=>rfl) Q (o+k/64) (n-k/64))) ?_);rintro _ w8 h9 u10 e rfl;replace B:=B.trans (u10.m _);refine lL e ae (lN (kX ?_));have hiN:i=n-k/64:=by omega
  have U:(win l (o+k/64) (n-k/64)).length=n-k/64:=bw oM;have hE:=Dn (Z:=win l (o+k/64) (n-k/64)) oM (by rw[U,<-hiN];rw[<-hiN] at inv;exact inv) L;have hZW:Wd (win l (o+k/64) (n-k/64)):=hW.win _ _;have Y:=nQ hZW;rw[hE,U] at Y
  have htl:=ia (win l (o+k/64) (n-k/64)) (n-k/64);exact e.retM B [] (qS (some ⟨rb,(o+k/64),none⟩) (tl (win l (o+k/64) (n-k/64)) (n-k/64)) (c-(k/64))) ⟨l,(o+k/64),_,_,rfl,hll,hW,by omega,by omega,⟨k,m,by rw[J,aJ] at O;exact O,by rw[Y];exact (ph htl).symm⟩,e.own 0⟩
 have bb:=oT D;refine lB 17 D (ag (bZ (cK (cQ (kZ (ab e aE (aK (lL e aE (EK 21 rb (o+(k/64)) (n-(k/64)) (c-(k/64)) 1 (i:Nat) i ((o+(k/64))+i) ?_)))))))));refine lQ 22 0 l aj 1 0 ((o+(k/64))+i) (mV ((l).getD ((o+(k/64))+i) 0)) e oM (lL e ae ?_);have V:X.getD i 0=l.getD (o+k/64+i) 0:=(F i (nR _) oM).symm;have hxi:=hW.get (o+k/64+i);have hdv:=zy (l.getD (o+k/64+i) 0) (2^(k%64));refine lV 24 (mV (((l).getD ((o+(k/64))+i) 0:Nat)/2^(k%64))) ?_ (hr:=fZ (t:=23) (u:=3) (x:=.tmp 22) (y:=.tmp 23) (ky:=.i64) (a:=((l).getD ((o+(k/64))+i) 0:Nat)) (n:=(k%64)) kR kR kR oM _);refine EK 25 rb (o+(k/64)) (n-(k/64)) (c-(k/64)) 1 (i:Nat) i ((o+(k/64))+i) (Gs 0 l aj 1 ((o+(k/64))+i) (((l).getD ((o+(k/64))+i) 0:Nat)/2^(k%64):Nat) e oM (fun _ pu e=>?_));replace B:=B.put pu (vl.2 rfl) e.g;have zb:((l).set ((o+(k/64))+i) (((l).getD ((o+(k/64))+i) 0:Nat)/2^(k%64):Nat)).length=C.length:=by rw[Ic];exact hll
 replace e:=e.to [⟨rb,23,((l).set ((o+(k/64))+i) (((l).getD ((o+(k/64))+i) 0:Nat)/2^(k%64):Nat)).flatMap aj⟩] [];refine aK (lL e ae (bB 27 ((i:Nat)+1) (i+1) ?_));refine lL e [.c,.v (nV (n-(k/64)))] ?_;cases za:(decide (((i+1:Nat):Int)<((n-(k/64):Nat):Int)))
 .
  have zc:=oF za;refine lB 30 za (am (cK (kQ (bB 45 ((i:Nat)+1) (i+1) ?_))));refine lL e ae (lD ?_);intro a_ ka;refine ⟨_,_,?_,⟨i+1,(l).set ((o+(k/64))+i) (((l).getD ((o+(k/64))+i) 0:Nat)/2^(k%64):Nat),h5,rfl,rfl,e.to _ _,oM,zb,(hW.set _ oM),(by rw[jS oM];exact rx (by rw[bw oM];omega) inv (by rw[V,ci (l:=X) (show X.length<=i+1 by omega),Ie,Ah,yw];exact Nat.div_add_mod _ _)),(pp oM F),B⟩,ka.to _ kR⟩
  omega
 have zc:=oT za;refine lB 30 za (ar (vL ⟨[],none⟩ 13 mixed ?_));replace B:=B.trans ((Up.drew (Up.refl e.g)).m _);replace e:=e.drew;refine aV 0 31 (qS (some ⟨rb,(o+(k/64)),none⟩) (n-(k/64)) (c-(k/64))) (aV 1 32 (nV i) (Hg 2 33 rb (o+(k/64)) (n-(k/64)) (c-(k/64)) 1 (i:Nat) i ((o+(k/64))+i) (aQ 3 34 0 ((l).set ((o+(k/64))+i) (((l).getD ((o+(k/64))+i) 0:Nat)/2^(k%64):Nat)) aj 1 0 ((o+(k/64))+i) (mV (((l).set ((o+(k/64))+i) (((l).getD ((o+(k/64))+i) 0:Nat)/2^(k%64):Nat)).getD ((o+(k/64))+i) 0)) e oM (aV 4 35 (qS (some ⟨rb,(o+(k/64)),none⟩) (n-(k/64)) (c-(k/64))) (aV 5 36 (nV i) (aV 6 37 (nV (i+1)) ?_ (hv:=fun _=>rS (((i:Nat)+1)) kR ((fW oM oM).trans oM))))))));refine Hg 7 38 rb (o+(k/64)) (n-(k/64)) (c-(k/64)) 1 (i+1:Nat) (i+1) ((o+(k/64))+(i+1)) (aQ 8 39 0 ((l).set ((o+(k/64))+i) (((l).getD ((o+(k/64))+i) 0:Nat)/2^(k%64):Nat)) aj 1 0 ((o+(k/64))+(i+1)) (mV (((l).set ((o+(k/64))+i) (((l).getD ((o+(k/64))+i) 0:Nat)/2^(k%64):Nat)).getD ((o+(k/64))+(i+1)) 0)) e oM (aV 9 40 (nV (k%64)) (aV 10 41 (nV (64-(k%64))) ?_ (hv:=fun _=>rS ((64-(k%64:Nat))) kR ((fW oM oM).trans oM)))));refine aV 11 42 (mV ((((l).set ((o+(k/64))+i) (((l).getD ((o+(k/64))+i) 0:Nat)/2^(k%64):Nat)).getD ((o+(k/64))+(i+1)) 0:Nat)*2^(64-(k%64))%18446744073709551616)) ?_ (hv:=fun _=>gE (t:=23) (u:=3) (x:=.tmp 39) (y:=.tmp 41) (ky:=.i64) (a:=(((l).set ((o+(k/64))+i) (((l).getD ((o+(k/64))+i) 0:Nat)/2^(k%64):Nat)).getD ((o+(k/64))+(i+1)) 0:Nat)) (n:=(64-(k%64))) kR kR kR _);have hXn:X.getD (i+1) 0=l.getD (o+k/64+(i+1)) 0:=(F (i+1) oM oM).symm;obtain ⟨hS1,hS2,hS3⟩:=og (x:=l.getD (o+k/64+i) 0) (y:=l.getD (o+k/64+(i+1)) 0) (p:=k%64) oM hxi;have hgs:=bv (l:=l) (k:=o+k/64+i) (j:=o+k/64+i) (x:=l.getD (o+k/64+i) 0/2^(k%64)) oM;rw[if_pos rfl] at hgs
 have W:=bv (l:=l) (k:=o+k/64+i) (j:=o+k/64+(i+1)) (x:=l.getD (o+k/64+i) 0/2^(k%64)) oM;rw[if_neg oM] at W
 refine aV 12 43 (mV (l.getD (o+k/64+i) 0/2^(k%64)+l.getD (o+k/64+(i+1)) 0*2^(64-k%64)%18446744073709551616)) ?_ (hv:=fun _=>ay (i9 (t:=23) (u:=23) (x:=.tmp 34) (y:=.tmp 42) (a:=(((l).set ((o+(k/64))+i) (((l).getD ((o+(k/64))+i) 0:Nat)/2^(k%64):Nat)).getD ((o+(k/64))+i) 0:Nat)) (b:=((((l).set ((o+(k/64))+i) (((l).getD ((o+(k/64))+i) 0:Nat)/2^(k%64):Nat)).getD ((o+(k/64))+(i+1)) 0:Nat)*2^(64-(k%64))%18446744073709551616:Nat)) kR kR kR oM oM _) (by rw[hgs,W,hS1]));refine HQ 13 44 rb (o+(k/64)) (n-(k/64)) (c-(k/64)) 1 (i:Nat) i ((o+(k/64))+i) (HR 14 0 ((l).set ((o+(k/64))+i) (((l).getD ((o+(k/64))+i) 0:Nat)/2^(k%64):Nat)) aj 1 ((o+(k/64))+i) (l.getD (o+k/64+i) 0/2^(k%64)+l.getD (o+k/64+(i+1)) 0*2^(64-k%64)%18446744073709551616:Nat) e oM (fun _ pu e=>?_));replace B:=B.put pu (vl.2 rfl) e.g;have zd:(((l).set ((o+(k/64))+i) (((l).getD ((o+(k/64))+i) 0:Nat)/2^(k%64):Nat)).set ((o+(k/64))+i) (l.getD (o+k/64+i) 0/2^(k%64)+l.getD (o+k/64+(i+1)) 0*2^(64-k%64)%18446744073709551616:Nat)).length=C.length:=by rw[Ic];exact zb
 replace e:=e.to [⟨rb,23,(((l).set ((o+(k/64))+i) (((l).getD ((o+(k/64))+i) 0:Nat)/2^(k%64):Nat)).set ((o+(k/64))+i) (l.getD (o+k/64+i) 0/2^(k%64)+l.getD (o+k/64+(i+1)) 0*2^(64-k%64)%18446744073709551616:Nat)).flatMap aj⟩] [];refine tN (kQ (bB 45 ((i:Nat)+1) (i+1) ?_));refine lL e ae (lD ?_);intro a_ ka;refine ⟨_,_,?_,⟨i+1,((l).set ((o+(k/64))+i) (((l).getD ((o+(k/64))+i) 0:Nat)/2^(k%64):Nat)).set ((o+(k/64))+i) (l.getD (o+k/64+i) 0/2^(k%64)+l.getD (o+k/64+(i+1)) 0*2^(64-k%64)%18446744073709551616:Nat),h5,rfl,rfl,e.to _ _,oM,zd,((hW.set _ oM).set _ hS2),(by rw[Ip,jS oM];exact rx (by rw[bw oM];omega) inv (by rw[V,hXn];exact hS3)),(by rw[Ip];exact pp oM F),B⟩,ka.to _ kR⟩
 omega
theorem E6 (rb:Nat)(u:List Nat)(o n c x:Nat)(hl0:u.length<=1000000000)(hon:o+n<=u.length)(hnc:n<=c)(hW0:Wd u)(F:win u o n=wds x)(D:Z9)(d y m:Nat)(hm:(wds y).length=m)(hmd:m<=d)(hyx:y<=x)(w:World)(h:Hp)(g:G w h)(ho:Own w rb 23 (u.flatMap aj))(hj:h[rb]?=some aY)(hD:SlO 1 aj 0 h D (wds y)):Calls Tryz.prog 115 #[.slice (some ⟨rb,o,none⟩) n c,.slice D m d] w (dN rb w h fun v w' _=>∃ z:List Nat,∃ o' Y c':Nat,v=.slice (some ⟨rb,o',none⟩) Y c'/\z.length=u.length/\Wd z/\o'+Y<=z.length/\Y<=c'/\win z o' Y=wds (x-y)/\Own w' rb 23 (z.flatMap aj)):=by
 have e:UpM [rb] w h w h:=UpM.refl g;obtain ⟨wz,hz,a⟩:=SS.at_ g ho hj;have bn:u.length=u.length:=rfl;replace a:=a.aS hD;have hwn:n=(wds x).length:=by rw[<-F,bw hon]
 have hlm:=cn hyx;refine go Tryz.func115 [(0,qS (some ⟨rb,o,none⟩) n c),(1,qS D m d)] rfl (ab a ae (aK (lL a ae (ag (ab a [.c,.v (nV n),.c] (a7 ?_))))));refine bY _ (CG.loop (fun μ_ Γ w_=>∃ (i:Nat)(l:List Nat)(J:Nat)(X:Hp),μ_=n-i/\Γ=[(0,qS (some ⟨rb,o,none⟩) n c),(1,qS D m d),(4,sZ),(9,nV n),(10,nV i),(5,mV J)]/\SS wz hz w_ X [⟨rb,23,(l).flatMap aj⟩] [] [fun X=>SlO 1 aj 0 X D (wds y)]/\i<=n/\l.length=u.length/\Wd l/\J<=1/\ak 18446744073709551616 (win l o n)+ak 18446744073709551616 ((wds y).take i)=x+18446744073709551616^i*J/\UpM [rb] w h w_ X) _ ⟨0,u,0,h,rfl,rfl,a.to _ _,In _,rfl,hW0,oM,(by have hx_:ak 18446744073709551616 (wds x)=x:=aJ x;rw[F,hx_];simp[ak]),e⟩ ?_);rintro _ _ w1 ⟨i,l,J,h2,hm3,rfl,a,hi,H,V,hbo,inv,e⟩;have hlk:=V.get (o+i);have hyk:=(Wd.wds y).get i;have M:=qU (l:=l) (o:=o) (n:=n) (j:=i);refine aD ?_;cases C:(decide ((i:Int)<(n:Int)))
 .
  have W:=oF C;refine lB 11 C (ag (cD (CG.exit ?_)))
  show CG _ _ _ _ _ _ _ _
  refine ab a ae (Bb 36 0 a (fun _ g_ f_ sg_=>B3 (some ⟨rb,o,none⟩) c (win l o n) n (bw oM) (by rw[bw oM];omega) (by rw[bw oM];omega) _ _ g_ (SlO.win (f:=aj) (d:=0) (b:=rb) (l:=l) (fun _=>rfl) sg_ o n)) ?_);rintro _ w5 h6 u7 a rfl;replace e:=e.trans (u7.m _);refine lL a ae (lN (kX ?_));have hiN:i=n:=by omega
  have K:(win l o n).length=n:=bw oM;rw[G1 (show (wds y).length<=i by omega),hiN] at inv
  have U:Wd (win l o n):=V.win _ _;have hE:aA (win l o n)=x-y:=nx U (by rw[K];have Z:ak 18446744073709551616 (wds y)=y:=aJ y;rw[Z] at inv;exact inv) oM hbo;have Q:=nQ U;rw[hE,K] at Q
  have htl:=ia (win l o n) n;exact a.retM e [] (qS (some ⟨rb,o,none⟩) (tl (win l o n) n) c) ⟨l,o,_,_,rfl,H,V,by omega,by omega,(by rw[Q];exact (ph htl).symm),a.own 0⟩
 have W:=oT C;refine lB 11 C (ag (bZ (cK (cQ (kZ (ab a aE (aK (lL a ae (ag (ab a [.c,.c,.v (nV m)] ?_))))))))));cases B:(decide ((i:Int)<(m:Int)))
 .
  have L:=oF B;refine lB 16 B (am (cK (kQ (lL a ll (EK 26 rb o n c 1 (i:Nat) i (o+i) ?_)))));refine lQ 27 0 l aj 1 0 (o+i) (mV ((l).getD (o+i) 0)) a oM (lL a aE ?_);obtain ⟨I,za,bb,bf,bl,S⟩:=iB ((l).getD (o+i) 0) 0 J wM wM oM;refine lV 30 (.tuple #[mV I,mV za]) ?_ (hr:=du kR (S _));refine lL a [.c,.v (mV I),.v (mV za)] (EK 33 rb o n c 1 (i:Nat) i (o+i) ?_);refine Gs 0 l aj 1 (o+i) I a oM (fun _ pu a=>?_);replace e:=e.put pu (vl.2 rfl) a.g;have zc:((l).set (o+i) I).length=u.length:=by rw[Ic];exact H
  replace a:=a.to [⟨rb,23,((l).set (o+i) I).flatMap aj⟩] [];refine lL a ae (lN (kQ (bB 34 ((i:Nat)+1) (i+1) ?_)));refine lL a ae (lD ?_);intro a_ ka;refine ⟨_,_,?_,⟨i+1,(l).set (o+i) I,za,h2,rfl,rfl,a.to _ _,oM,zc,(V.set _ oM),oM,(by rw[jS oM];exact gq (by rw[bw oM];omega) inv (by rw[M oM];first|omega|(have hy0:=ci (l:=wds y) (k:=i) oM;omega))),e⟩,ka.to _ kR⟩
  omega
 have L:=oT B;refine lB 16 B (ar (kQ (lL a aE (lX 19 D m d 1 (i:Nat) i ((a.f.1).ok oM) ?_))));refine lH 20 (mV ((wds y).getD i 0)) a ((a.f.1).el i oM) (lL a ae (lN (kQ (lL a ll (EK 26 rb o n c 1 (i:Nat) i (o+i) ?_)))));refine lQ 27 0 l aj 1 0 (o+i) (mV ((l).getD (o+i) 0)) a oM (lL a aE ?_);obtain ⟨p,zb,bd,bk,bm,O⟩:=iB ((l).getD (o+i) 0) ((wds y).getD i 0) J wM wM oM;refine lV 30 (.tuple #[mV p,mV zb]) ?_ (hr:=du kR (O _));refine lL a [.c,.v (mV p),.v (mV zb)] (EK 33 rb o n c 1 (i:Nat) i (o+i) ?_);refine Gs 0 l aj 1 (o+i) p a oM (fun _ pu a=>?_);replace e:=e.put pu (vl.2 rfl) a.g;have zd:((l).set (o+i) p).length=u.length:=by rw[Ic];exact H
 replace a:=a.to [⟨rb,23,((l).set (o+i) p).flatMap aj⟩] [];refine lL a ae (lN (kQ (bB 34 ((i:Nat)+1) (i+1) ?_)));refine lL a ae (lD ?_);intro a_ ka;refine ⟨_,_,?_,⟨i+1,(l).set (o+i) p,zb,h2,rfl,rfl,a.to _ _,oM,zd,(V.set _ oM),oM,(by rw[jS oM];exact gq (by rw[bw oM];omega) inv (by rw[M oM];first|omega|(have hy0:=ci (l:=wds y) (k:=i) oM;omega))),e⟩,ka.to _ kR⟩
 omega
theorem Tz.le {n k m:Nat}(t:Tz n k m):m<=n:=by rw[t.1];exact II m (Aw k)
theorem kB (a b:Nat):(bP a b=0/\a=b)\/(bP a b = -1/\a<b)\/(bP a b=1/\b<a):=by
 rcases Nat.lt_trichotomy a b with h|h|h
 ·exact .inr (.inl ⟨dh h,h⟩)
 ·exact .inl ⟨gT h,h⟩
 ·exact .inr (.inr ⟨eD h,h⟩)
theorem sE (A:Z9)(c:Nat)(D:Z9)(d:Nat)(x y n a:Nat)(e f:List Nat)(u:e=wds x)(l:f=wds y)(o:e.length=n)(b:f.length=a)(p:n<=1000000000)(z:a<=1000000000)(w:World)(h:Hp)(g:G w h)(i:SlO 1 aj 0 h A e)(j:SlO 1 aj 0 h D f):CV 114 #[.slice A n c,.slice D a d] w h (iV (bP x y)):=by
 subst u l;exact vi A c D d x y n a o b oM oM w h g i j
theorem Gg (A:Z9)(c:Nat)(l:List Nat)(n x:Nat)(d:l=wds x)(b:l.length=n)(e:n<=1000000000)(w:World)(h:Hp)(g:G w h)(a:SlO 1 aj 0 h A l):CV 116 #[.slice A n c] w h (nv x):=by
 subst d;have:=BK A c (wds x) n b (Wd.wds x) oM w h g a
 rwa [aJ] at this
theorem xp (rb:Nat)(a:List Nat)(o n c x:Nat)(l:a.length<=1000000000)(p:o+n<=a.length)(f:n<=c)(u:Wd a)(b:win a o n=wds x)(D:Z9)(d y m:Nat)(i:List Nat)(I:i=wds y)(C:i.length=m)(j:m<=d)(B:y<=x)(w:World)(h:Hp)(g:G w h)(F:Own w rb 23 (a.flatMap aj))(J:h[rb]?=some aY)(H:SlO 1 aj 0 h D i):Calls Tryz.prog 115 #[.slice (some ⟨rb,o,none⟩) n c,.slice D m d] w (dN rb w h fun v w' _=>∃ z:List Nat,∃ o' e c':Nat,v=.slice (some ⟨rb,o',none⟩) e c'/\z.length=a.length/\Wd z/\o'+e<=z.length/\e<=c'/\win z o' e=wds (x-y)/\Own w' rb 23 (z.flatMap aj)):=by
 subst I;exact E6 rb a o n c x l p f u b D d y m C j B w h g F J H
theorem xO (x y:Nat)(hx:0<x)(hy:0<y)(hlx:(wds x).length<=1000000000)(hly:(wds y).length<=1000000000)(w:World)(h:Hp)(g:G w h)(tb:Tab h):CV 74 #[nv x,nv y] w h (nv (ID x y)):=by
 have e:=((sS g).add (K:=fun h_=>Tab h_) tb);have hpx:=hx;have hpy:=hy;refine go Tryz.func74 [(0,nv x),(1,nv y)] rfl (aD (lA 2 25 (nc x) e (fun b1 w2 h3 e=>lA 3 25 (nc y) e (fun b4 w5 h6 e=>lA 4 25 ([uV 0,eS]) e (fun X w8 h9 e=>ag ?_)))));obtain ⟨K_,hK_⟩:∃ K_,K_=w8.heap.size:=⟨_,rfl⟩;have hh:X<K_:=by rw[hK_];exact ej e 0
 have bn:b4<K_:=by rw[hK_];exact ej e 1
 have cm:b1<K_:=by rw[hK_];exact ej e 2
 refine vL ⟨[],some (K_,[])⟩ 0 mixed ?_;have h5:=e.g.size;replace e:=e.drew;have Y:=Ir hK_;refine zO 0 10 [(2,0,2)] (nv x) rfl Y e (fun p hp=>by obtain rfl:=vl.1 hp;exact cm) (zO 2 12 [(1,0,2)] (nv y) rfl Y e (fun p hp=>by obtain rfl:=vl.1 hp;exact bn) (qA 1 11 (uk x oM oM _ _ e.g) rfl Y ?_));rintro _ _ _ u12 Y ⟨I,rfl,d0,c8,h7⟩;obtain ⟨_,e,-,-⟩:=e.take u12 d0 c8;replace e:=e.to [⟨I,23,(wds x).flatMap aj⟩,⟨X,25,[uV 0,eS]⟩,⟨b4,25,nc y⟩,⟨b1,25,nc x⟩] [];refine qA 3 13 (uk y oM oM _ _ e.g) rfl Y ?_;rintro _ _ _ u16 Y ⟨L,rfl,dz,dp,h4⟩;obtain ⟨_,e,-,-⟩:=e.take u16 dz dp;replace e:=e.to [⟨L,23,(wds y).flatMap aj⟩,⟨I,23,(wds x).flatMap aj⟩,⟨X,25,[uV 0,eS]⟩,⟨b4,25,nc y⟩,⟨b1,25,nc x⟩] [];refine zV 4 5 (qS (sB I) ((wds x).length) ((wds x).length)) (zV 5 6 (qS (sB L) ((wds y).length) ((wds y).length)) (tM (lL e ae (GJ 15 1 e (fun _ g_ f_ U=>qm (sB I) (wds x).length (wds x) (wds x).length rfl (Wd.wds x) (by rw[aJ];omega) oM _ _ g_ (f_.1) (SlO.of_flat (sz:=1) (f:=aj) (d:=0) (b:=I) (o:=0) (l:=wds x) (fun _=>rfl) U)) ?_))));rintro _ _ _ e ⟨kx,mx,rfl,htx,hkx⟩;rw[aJ] at htx
 refine lL e ae (GJ 17 0 e (fun _ g_ f_ U=>qm (sB L) (wds y).length (wds y) (wds y).length rfl (Wd.wds y) (by rw[aJ];omega) oM _ _ g_ (f_.1) (SlO.of_flat (sz:=1) (f:=aj) (d:=0) (b:=L) (o:=0) (l:=wds y) (fun _=>rfl) U)) ?_);rintro _ _ _ e ⟨ky,my,rfl,hty,hky⟩;rw[aJ] at hty
 refine lV 18 (nV (min kx ky)) ?_ (hr:=ay (n:=if (ky:Int)<(kx:Int) then (ky:Int) else (kx:Int)) kR (by split<;>omega));refine lL e ae (aK (lL e ae (fq 20 (rC I (wds x) 0 ((wds x).length) ((wds x).length) x hpx oM oM (nR _) (Wd.wds x) (qJ _ _ (nR _)) _ _ e.g (e.own 1) (e.jk 1) e.f.1) ?_)));rintro _ _ _ u27 ⟨z24,o24,n24,zl,rfl,f9,ch,cd,cq,⟨h2,dy,j,bl⟩,dn⟩;replace e:=(e.stepM 1 u27 dn).to [⟨L,23,(wds y).flatMap aj⟩,⟨I,23,(z24).flatMap aj⟩,⟨X,25,[uV 0,eS]⟩,⟨b4,25,nc y⟩,⟨b1,25,nc x⟩] [];have c7:=j.odd_pos;have hl:=j.le;refine lL e ae (fq 22 (rC L (wds y) 0 ((wds y).length) ((wds y).length) y hpy oM oM (nR _) (Wd.wds y) (qJ _ _ (nR _)) _ _ e.g (e.own 0) (e.jk 0) e.f.1) ?_);rintro _ _ zm u31 ⟨z28,o28,n28,zn,rfl,hm,cf,c4,cx,⟨hn,d1,u,b9⟩,ds⟩;replace e:=(e.stepM 0 u31 ds).to [⟨L,23,(z28).flatMap aj⟩,⟨I,23,(z24).flatMap aj⟩,⟨X,25,[uV 0,eS]⟩,⟨b4,25,nc y⟩,⟨b1,25,nc x⟩] [];have cy:=u.odd_pos;have hc:=u.le;refine lL e aE (ag (kZ ?_));refine bY _ (CG.loop (fun μ_ Γ w_=>∃ (J:Nat)(O:List Nat)(V:Nat)(Q:Nat)(c1:Nat)(S:Nat)(l2:List Nat)(Z:Nat)(W:Nat)(c2:Nat)(C:Nat)(y1:Nat)(h_:Hp),μ_=C+y1/\Γ=[(4,pB X),(7,nV (min kx ky)),(5,qS (some ⟨J,V,none⟩) Q c1),(6,qS (some ⟨S,Z,none⟩) W c2)]/\SS w h w_ h_ [⟨S,23,(l2).flatMap aj⟩,⟨J,23,(O).flatMap aj⟩,⟨X,25,[uV 0,eS]⟩,⟨b4,25,nc y⟩,⟨b1,25,nc x⟩] [] [fun h_=>Tab h_]/\O.length<=1000000000/\Wd O/\V+Q<=O.length/\Q<=c1/\win O V Q=wds C/\0<C/\l2.length<=1000000000/\Wd l2/\Z+W<=l2.length/\W<=c2/\win l2 Z W=wds y1/\0<y1/\C%2=1/\y1%2=1/\ID C y1*2^min kx ky=ID x y) _ ⟨I,z24,o24,n24,zl,L,z28,o28,n28,zn,dy,d1,zm,rfl,rfl,e.to _ _,oM,ch,cd,cq,bl,c7,oM,cf,c4,cx,b9,cy,j.2,u.2,(by rw[(htx.uniq j).1,(hty.uniq u).1];exact (wH j u).symm)⟩ ?_);rintro _ _ _ ⟨J,O,V,Q,c1,S,l2,Z,W,c2,C,y1,_,hw,rfl,e,hl1,hW1,D,bd,i,hx1,hl2,hW2,M,bb,B,hy1,hxo,hyo,hG⟩;have h8:=kB C y1;have d2:=congrArg IJ i;rw[bw D] at d2
 have dx:=congrArg IJ B;rw[bw M] at dx
 refine kZ (ab e aE (GS 25 1 0 e (fun _ g_ f_ U sh_=>sE (some ⟨J,V,none⟩) c1 (some ⟨S,Z,none⟩) c2 C y1 Q W (win O V Q) (win l2 Z W) i B (bw D) (bw M) oM oM _ _ g_ (SlO.win (f:=aj) (d:=0) (b:=J) (l:=O) (fun _=>rfl) U V Q) (SlO.win (f:=aj) (d:=0) (b:=S) (l:=l2) (fun _=>rfl) sh_ Z W)) ?_));rintro _ _ _ e rfl;refine lL e ae (ag (ab e ae ?_));cases za:((bP C y1:Int) == (0:Int))
 .
  have zd:=aq za;refine lB 27 za (am (cK (cQ (ab e ae ?_))));cases zb:(decide ((bP C y1:Int)<(0:Int)))
  .
   have ze:=oF zb;refine lB 29 zb (am (cK (kQ (lL e aE (Fa 34 1 0 e (fun _ g_ f_ hj_ sh_=>xp J O V Q c1 C oM D bd hW1 i (some ⟨S,Z,none⟩) c2 y1 W (win l2 Z W) B (bw M) bb oM _ _ g_ (e.own 1) hj_ (SlO.win (f:=aj) (d:=0) (b:=S) (l:=l2) (fun _=>rfl) sh_ Z W)) ?_)))));rintro _ _ _ u44 ⟨s41,f3,fp,fn,rfl,hj,bf,bz,cr,cz,zi⟩;replace e:=(e.stepM 1 u44 zi).to [⟨S,23,(l2).flatMap aj⟩,⟨J,23,(s41).flatMap aj⟩,⟨X,25,[uV 0,eS]⟩,⟨b4,25,nc y⟩,⟨b1,25,nc x⟩] [];refine fq 35 (rC J s41 f3 fp fn (C-y1) oM oM bz cr bf cz _ _ e.g (e.own 1) (e.jk 1) e.f.1) ?_;rintro _ _ zo u48 ⟨z45,o45,n45,zp,rfl,hb,bk,bq,c3,⟨j0,d3,H,b2⟩,fm⟩;replace e:=(e.stepM 1 u48 fm).to [⟨S,23,(l2).flatMap aj⟩,⟨J,23,(z45).flatMap aj⟩,⟨X,25,[uV 0,eS]⟩,⟨b4,25,nc y⟩,⟨b1,25,nc x⟩] [];have cp:=H.odd_pos;have f7:=H.le;refine lL e ae (lD ?_);intro a_ ka;refine ⟨_,_,?_,⟨J,z45,o45,n45,zp,S,l2,Z,W,c2,d3,y1,zo,rfl,rfl,e.to _ _,oM,bk,bq,c3,b2,cp,oM,hW2,M,bb,B,hy1,H.2,hyo,(by rw[rj oM hyo H];exact hG)⟩,ka.to _ kR⟩
   omega
  have ze:=oT zb;refine lB 29 zb (ar (kQ (lL e ll (lN (kQ (lL e aE (Fa 34 0 1 e (fun _ g_ f_ hj_ sh_=>xp S l2 Z W c2 y1 oM M bb hW2 B (some ⟨J,V,none⟩) c1 C Q (win O V Q) i (bw D) bd oM _ _ g_ (e.own 0) hj_ (SlO.win (f:=aj) (d:=0) (b:=J) (l:=O) (fun _=>rfl) sh_ V Q)) ?_)))))));rintro _ _ _ u67 ⟨s64,df,c9,f2,rfl,f6,c5,b6,b3,bm,zj⟩;replace e:=(e.stepM 0 u67 zj).to [⟨S,23,(s64).flatMap aj⟩,⟨J,23,(O).flatMap aj⟩,⟨X,25,[uV 0,eS]⟩,⟨b4,25,nc y⟩,⟨b1,25,nc x⟩] [];refine fq 35 (rC S s64 df c9 f2 (y1-C) oM oM b6 b3 c5 bm _ _ e.g (e.own 0) (e.jk 0) e.f.1) ?_;rintro _ _ zq u71 ⟨z68,o68,n68,zr,rfl,hd,cb,c6,b5,⟨hq,f1,F,cw⟩,dc⟩;replace e:=(e.stepM 0 u71 dc).to [⟨S,23,(z68).flatMap aj⟩,⟨J,23,(O).flatMap aj⟩,⟨X,25,[uV 0,eS]⟩,⟨b4,25,nc y⟩,⟨b1,25,nc x⟩] [];have b0:=F.odd_pos;have f8:=F.le;refine lL e ae (lD ?_);replace e:=e.perm (List.Perm.swap _ _ _);intro a_ ka;refine ⟨_,_,?_,⟨S,z68,o68,n68,zr,J,O,V,Q,c1,f1,C,zq,rfl,rfl,e.to _ _,oM,cb,c6,b5,cw,b0,oM,hW1,D,bd,i,hx1,F.2,hxo,(by rw[rj oM hxo F,Io];exact hG)⟩,ka.to _ kR⟩
  omega
 have zd:=eq_of_beq za;refine lB 27 za (ar (CG.exit ?_))
 show CG _ _ _ _ _ _ _ _
 refine ab e ae (GJ 37 1 e (fun _ g_ f_ U=>Gg (some ⟨J,V,none⟩) c1 (win O V Q) Q C i (bw D) oM _ _ g_ (SlO.win (f:=aj) (d:=0) (b:=J) (l:=O) (fun _=>rfl) U V Q)) ?_);rintro _ _ _ e rfl;refine lA 9 25 ([uV 0,eS]) e (fun zg _ zs e=>lP 0 0 (nc C) e (fun _ e=>ag (kZ ?_)));refine bY _ (CG.loop (fun μ_ Γ w_=>∃ (z:Int)(a:Nat)(h_:Hp),μ_=z.toNat/\Γ=[(4,pB X),(9,pB zg),(7,iV z)]/\SS w h w_ h_ [⟨zg,25,nc a⟩,⟨S,23,(l2).flatMap aj⟩,⟨J,23,(O).flatMap aj⟩,⟨X,25,[uV 0,eS]⟩,⟨b4,25,nc y⟩,⟨b1,25,nc x⟩] [] [fun h_=>Tab h_]/\z<=64000000000/\a*2^z.toNat=ID x y) _ ⟨((min kx ky:Nat):Int),C,zs,rfl,rfl,e.to _ _,oM,(by rw[show C=y1 by omega,Nat.gcd_self] at hG;rw[show C=y1 by omega];rw[show (((min kx ky:Nat):Int)).toNat=min kx ky by omega];exact hG)⟩ ?_);rintro _ _ _ ⟨z,a,_,ht,rfl,e,hz,ha⟩;refine cQ (ab e ae ?_);cases zc:(decide ((0:Int)<(z:Int)))
 .
  have zf:=oF zc;refine lB 39 zc (am (CG.exit ?_))
  show CG _ _ _ _ _ _ _ _
  exact ab e [.o (nv a) 0 0 2] (lP 3 0 (nc a) e (fun _ e=>ah e [(3,0,2)] (nv a) (by rw[show z.toNat=0 by omega,Il,Ga] at ha;rw[ha])))
 have zf:=oT zc;refine lB 39 zc (ar (cK (cQ (kZ (kQ (lL e [.o (nv a) 0 0 2,.c] (lV 44 (nV (min z.toNat 65536)) ?_ (hr:=ay (n:=if (65536:Int)<z then (65536:Int) else z) kR (by split<;>omega)))))))));refine au 45 e (Er a (min z.toNat 65536) (by have:=cn (show a<=x by exact e4 (Nat.le_mul_of_pos_right a (Aw z.toNat)) (by rw[ha];exact IK y hx));omega) oM _ _ e.g) (fun _ zk e=>lP 0 0 (nc (a*2^min z.toNat 65536)) e (fun _ e=>lN (kQ (lL e ae (lI 41 (z-65536) ?_)))));refine lL e ae (lD ?_);intro a_ ka;refine ⟨_,_,?_,⟨z-65536,a*2^min z.toNat 65536,zk,rfl,rfl,e.to _ _,oM,(by rw[z8,<-A4,show min z.toNat 65536+(z-65536).toNat=z.toNat by omega];exact ha)⟩,ka.to _ kR⟩
 omega
theorem ki (n:Nat):(n=0/\nb n=0)\/(0<n/\0<nb n):=by
 rcases yW n with h|h
 ·subst h;exact .inl ⟨rfl,rfl⟩
 ·exact .inr ⟨h,(cj h).2.2⟩
theorem jb (x y:Nat):ID y (x%y)=ID x y:=by rw[Io y,<-Nat.gcd_rec,Io]
theorem DI (n:Nat)(w:World)(h:Hp)(g:G w h):CR 73 #[nv n] w h (fun v _=>∃ s:Nat,∃ ok:Bool,v=.tuple #[mV s,.bool ok]/\(ok=true->s=n/\n<18446744073709551616)):=by
 rcases ep n 18446744073709551616 with hn|hn
 ·refine (rY n hn w h g).mono ?_
  rintro _ w' ⟨_,a,rfl,u,rfl⟩;exact ⟨_,a,rfl,u,n,true,rfl,fun _=>⟨rfl,hn⟩⟩
 ·refine (x6 n hn w h g).mono ?_
  rintro _ w' ⟨_,a,rfl,u,rfl⟩;exact ⟨_,a,rfl,u,0,false,rfl,fun e=>by cases e⟩
theorem GC (a b:Int)(hla:(wds (ac a)).length<=1000000000)(hlb:(wds (ac b)).length<=1000000000)(w:World)(h:Hp)(g:G w h)(tb:Tab h):CV 35 #[iv a,iv b] w h (nv (ID (ac a) (ac b))):=by
 have d:=((sS g).add (K:=fun z=>Tab z) tb);refine go Tryz.func35 [(0,iv a),(1,iv b)] rfl (aD (lA 2 27 (ic a) d (fun b1 w2 h3 d=>lA 3 27 (ic b) d (fun Z w5 h6 d=>lA 4 25 ([uV 0,eS]) d (fun W w8 h9 d=>ag ?_)))));have l:=d;refine B5 6 [⟨4,5,.cells (IL [uV 0,eS]) 25 (0,0)⟩,⟨5,6,.cells (IL [uV 0,eS]) 25 (0,0)⟩] [] mixed d (be (dE kR (fun _ _=>by kernel_rfl)) (be (dE kR (fun _ _=>by kernel_rfl)) ai)) (eV 0 14 (qP b1 1) (eO 1 15 [(2,1,2)] (nv (ac a)) d (eV 2 16 (qP Z 1) (wP 3 17 [(1,1,2)] (nv (ac b)) l d (CT l d 25 [uV 0,eS] 25 [uV 0,eS] (fun _ _ O L J M d=>tP 6 0 0 (nc (ac a)) d (fun _ d=>?_) (hz:=gU J)))))));refine tP 7 1 0 (nc (ac b)) d (fun _ d=>?_) (hz:=gU M);refine tN (CG.join (fun Γ w_=>∃ (x:Nat)(y:Nat)(z:Hp),Γ=[(4,pB W),(6,pB L),(5,pB O)]/\SS w h w_ z [⟨O,25,nc x⟩,⟨L,25,nc y⟩,⟨W,25,[uV 0,eS]⟩,⟨Z,27,ic b⟩,⟨b1,27,ic a⟩] [] [fun z=>Tab z]/\(wds x).length<=1000000000/\(wds y).length<=1000000000/\ID x y=ID (ac a) (ac b)) ?_ ?_)
 .
  refine ab d [.o (nv (ac a)) 0 0 2,.o (nv (ac b)) 1 0 2] (au 20 d (kN (ac a) (ac b) aM aM _ _ d.g) (fun _ zm d=>?_));have hcm:=kB (ac a) (ac b);cases X:(decide ((bP (ac a) (ac b):Int)<(0:Int)))
  .
   have zi:=oF X;refine lB 21 X (am (CG.skip ?_));intro a_ F;exact ⟨_,⟨(ac a),(ac b),zm,rfl,d.to _ _,aM,aM,(by first|rfl|exact Io _ _)⟩,F.to _ kR⟩
  have zi:=oT X;refine lB 21 X (ar (kQ (lL d [.o (nv (ac b)) 1 0 2,.o (nv (ac a)) 0 0 2] (lP 0 0 (nc (ac b)) d (fun _ d=>lP 1 0 (nc (ac a)) d (fun _ d=>lD ?_))))));intro a_ F;exact ⟨_,⟨(ac b),(ac a),zm,rfl,d.to _ _,aM,aM,(by first|rfl|exact Io _ _)⟩,F.to _ kR⟩
 rintro _ _ ⟨x,y,_,rfl,d,hlx,hly,H⟩;refine cQ (ab d [.o (nv y) 1 0 2] (au 25 d (ff y (by first|assumption|exact aw (IM (yO _ oM)) aM) _ _ d.g) (fun _ _ d=>?_)));have bb:=ki y;cases V:(((nb y:Nat):Int) == (0:Int))
 .
  have zj:=aq V;refine lB 26 V (am (cK (ab d [.o (nv x) 0 0 2,.o (nv y) 1 0 2] (au 31 d (Gc x y oM aM aM _ _ d.g) (fun _ _ d=>?_)))));have hmd:=yO x (show 0<y by omega);refine lL d [.c,.v (nv (x/y)),.v (nv (x%y)),.v qT] (lA 7 25 ([uV 0,eS]) d (fun zn _ _ d=>lA 8 25 ([uV 0,eS]) d (fun zo _ _ d=>lP 1 0 (nc (x/y)) d (fun _ d=>lP 0 0 (nc (x%y)) d (fun _ d=>lL d ae (ag ?_))))));have l:=d;refine B5 2 [] [O,L] mixed d ai (eO 0 35 [(3,0,2)] (nv y) d (wP 1 36 [(0,0,2)] (nv (x%y)) l d ?_ (hM:=fun p Y=>by obtain rfl:=vl.1 Y;exact fun I=>by rcases g4.1 I with e|I;exact fv d.st (i:=0) (j:=2) kR kR kR e;rcases g4.1 I with e|I;exact fv d.st (i:=0) (j:=3) kR kR kR e;cases I)));refine bA d (fun _ _ d=>tP 2 2 0 (nc y) d (fun _ d=>?_) (hz:=fw (Is)));refine tP 3 3 0 (nc (x%y)) d (fun _ d=>?_) (hz:=fw (Iu _<|Is));refine tN (cQ (aD ?_));have D:ID y (x%y)=ID (ac a) (ac b):=by rw[<-H];exact jb _ _
  refine lL d [.o (nv (x%y)) 3 0 2] (au 38 d (ff (x%y) (by first|assumption|exact aw (IM (yO _ oM)) aM) _ _ d.g) (fun _ _ d=>?_));have bk:=ki (x%y);cases Q:(((nb (x%y):Nat):Int) == (0:Int))
  .
   have zk:=aq Q;refine lB 39 Q (am (cK (cQ (ab d [.o (nv y) 2 0 2] (lC 43 d (DI y _ _ d.g) ?_)))));rintro _ _ _ d ⟨sp,ok,rfl,B⟩;refine lL d [.c,.v (mV sp),.v (.bool ok),.c,.c] (aK (lL d ae (lN ?_)));cases U:(ok)
   .
    try rw[U] at d
    try rw[U]
    exact cD (cK (ab d [.o (nv y) 2 0 2,.o (nv (x%y)) 3 0 2] (au 62 d (xO y (x%y) oM oM (by first|assumption|exact aw (IM (yO _ oM)) aM) (by first|assumption|exact aw (IM (yO _ oM)) aM) _ _ d.g d.f.1) (fun _ _ d=>lP 4 0 (nc (ID y (x%y))) d (fun _ d=>ah d [(4,0,2)] (nv (ID y (x%y))) (congrArg nv D))))))
   try rw[U] at d
   try rw[U]
   refine bZ (ab d [.o (nv (x%y)) 3 0 2] (au 49 d (rY (x%y) (by have C:=B aM;omega) _ _ d.g) (fun _ zp d=>lL d [.c,.v (mV (x%y)),.v qT,.c,.c] (ag (kZ ?_)))));refine bY _ (CG.loop (fun μ_ Γ w_=>∃ (p:Nat)(q:Nat)(z:Hp),μ_=q/\Γ=[(4,pB W),(6,pB L),(5,pB O),(10,mV p),(12,mV q)]/\SS w h w_ z [⟨zo,25,nc (x%y)⟩,⟨zn,25,nc (x/y)⟩,⟨O,25,nc y⟩,⟨L,25,nc (x%y)⟩,⟨W,25,[uV 0,eS]⟩,⟨Z,27,ic b⟩,⟨b1,27,ic a⟩] [] [fun z=>Tab z]/\p<18446744073709551616/\q<18446744073709551616/\ID p q=ID (ac a) (ac b)) _ ⟨sp,(x%y),zp,rfl,rfl,d.to _ _,(by have C:=B aM;omega),(by have C:=B aM;omega),(by rw[(B aM).1];exact D)⟩ ?_);rintro _ _ _ ⟨p,q,_,bf,rfl,d,Y,hq,hG⟩;refine cQ (ab d ae ?_);cases S:(decide ((0:Int)<(q:Int)))
   .
    have zl:=oF S;refine lB 53 S (am (CG.exit ?_))
    show CG _ _ _ _ _ _ _ _
    exact ab d ae (au 59 d (Gi p Y _ _ d.g) (fun _ _ d=>lP 4 0 (nc p) d (fun _ d=>ah d [(4,0,2)] (nv p) (congrArg nv (by rw[<-hG,show q=0 by omega,IN])))))
   have zl:=oT S;refine lB 53 S (ar (cK (kZ (cR 4 [] mixed d ai ?_))));refine eV 0 54 (mV q) (eV 1 55 (mV p) (eV 2 56 (mV q) (eV 3 57 (mV (p%q)) ?_ (hv:=fun _=>ay (fC (t:=23) (u:=23) (x:=.tmp 55) (y:=.tmp 56) (k:=.u64) (a:=(p:Int)) (b:=(q:Int)) kR kR kR oM _) (dg p q)))));refine bA d (fun _ zq d=>tV 4 10 (mV q) (tV 5 12 (mV (p%q)) (tD ?_)));intro a_ F;refine ⟨_,_,?_,⟨q,p%q,zq,rfl,rfl,d.to _ _,hq,(by have:=yO p (show 0<q by omega);omega),(by rw[jb];exact hG)⟩,F.to _ kR⟩;have bd:=yO p (show 0<q by omega)
   omega
  have zk:=eq_of_beq Q;exact lB 39 Q (ar (ab d [.o (nv y) 2 0 2] (lP 4 0 (nc y) d (fun _ d=>ah d [(4,0,2)] (nv y) (congrArg nv (by rw[<-D,show (x%y)=0 by omega,IN]))))))
 have zj:=eq_of_beq V;exact lB 26 V (ar (ab d [.o (nv x) 0 0 2] (lP 2 0 (nc x) d (fun _ d=>ah d [(2,0,2)] (nv x) (congrArg nv (by rw[<-H,show y=0 by omega,IN]))))))
theorem pf (z:Int)(b:Nat)(a:(b:Int)∣z):ck (decide (z.sign<0)) (ac z/b)=z/b:=by
 obtain ⟨k,rfl⟩:=a
 rcases yW b with hb|hb
 ·subst hb;simp[ck,ac]
 have e1:ac ((b:Int)*k)/b=k.natAbs:=by
  unfold ac
  rw[IP,IQ,IH _ hb]
 have e2:((b:Int)*k)/b=k:=IR _ oM;have c:((b:Int)*k).sign=k.sign:=by rw[Int.sign_mul,Int.sign_natCast_of_ne_zero oM,Int.one_mul]
 rw[e1,e2,c]
 unfold ck
 rcases IS k 0 with h|h|h
 ·rw[Iz h];simp;omega
 ·subst h;simp
 ·rw[IA h];simp;omega
theorem jO (a b:Rat):∀ g h:Nat,∀ up:Int,g=ID a.den b.den->up=a.num*((b.den/g:Nat):Int)+b.num*((a.den/g:Nat):Int)->h=ID (ac up) g ->
    (a+b).num=up/h/\(a+b).den=(a.den/g)*(b.den/h)/\(h:Int)∣up/\h∣b.den/\0<h/\0<g:=by
  intro g h up c f e;have i:0<g:=by rw[c];exact Nat.gcd_pos_of_pos_left _ a.den_pos
  have u:0<h:=by rw[e];exact IT _ i
  have y:g∣a.den:=by rw[c];exact IU _ _
  have l:g∣b.den:=by rw[c];exact IV _ _
  have o:h∣g:=by rw[e];exact IV _ _
  have x:(h:Int)∣up:=by
    have h1:h∣up.natAbs:=by rw[e];exact IU _ _
    exact IW (IX.2 h1) (IY.2 (IZ _))
  have j:h∣b.den:=Nat.dvd_trans o l;refine ⟨?_,?_,x,j,u,i⟩
  . show (I0 a b).num=_
    delta I0
    dsimp only
    split
    . rename_i h1
      have p:g=1:=by rw[c];exact h1
      dsimp only
      clear h1 c
      subst p;have d:h=1:=by rw[e];simp
      rw[d,f];simp
    . subst c f e
      dsimp only[I1]
      split
      . rename_i h1
        dsimp only
        unfold ac
        rw[h1];simp
      . dsimp only
        rw[I2]
        rfl
  . show (I0 a b).den=_
    delta I0
    dsimp only
    split
    . rename_i h1
      have p:g=1:=by rw[c];exact h1
      dsimp only
      clear h1 c
      subst p;have d:h=1:=by rw[e];simp
      rw[d];simp
    . subst c f e
      dsimp only[I1]
      split
      . rename_i h1
        dsimp only
        unfold ac
        rw[h1];simp
      . dsimp only
        rw[I3]
        unfold ac at *
        rw[Nat.mul_div_assoc _ j]
theorem jX (a b:Rat):∀ g h:Nat,g=ID (ac a.num) b.den->h=ID (ac b.num) a.den ->
  (a*b).num=(a.num/g)*(b.num/h)/\(a*b).den=(a.den/h)*(b.den/g)/\(g:Int)∣a.num/\(h:Int)∣b.num/\0<g/\0<h:=by
 intro g h d c;have e:0<g:=by rw[d];exact IT _ b.den_pos
 have f:0<h:=by rw[c];exact IT _ a.den_pos
 have i:(g:Int)∣a.num:=by
  have h1:g∣a.num.natAbs:=by rw[d];exact IU _ _
  exact IW (IX.2 h1) (IY.2 (IZ _))
 have j:(h:Int)∣b.num:=by
  have h1:h∣b.num.natAbs:=by rw[c];exact IU _ _
  exact IW (IX.2 h1) (IY.2 (IZ _))
 refine ⟨?_,?_,i,j,e,f⟩
 ·show (I4 a b).num=_
  delta I4
  dsimp only
  rw[I2,I2,d,c];rfl
 ·show (I4 a b).den=_
  delta I4
  dsimp only
  rw[I3,I3,d,c];rfl
theorem gt (n:Int)(d:Nat)(a:0<d):(mkRat n d).num=n/(ID (ac n) d:Nat)/\(mkRat n d).den=d/ID (ac n) d/\((ID (ac n) d:Nat):Int)∣n/\0<ID (ac n) d:=by
 have b:((ID (ac n) d:Nat):Int)∣n:=by
  have h1:ID (ac n) d∣n.natAbs:=IU _ _;exact IW (IX.2 h1) (IY.2 (IZ _))
 unfold mkRat
 rw[dif_neg oM,Rat.normalize_eq];exact ⟨rfl,rfl,b,IT _ a⟩
theorem qW (b:Rat)(h:b.num≠0):(b⁻¹).num=ck (decide (b.num.sign<0)) b.den/\(b⁻¹).den=ac b.num:=by
 have e:b⁻¹=Rat.inv b:=rfl;rw[e]
 delta Rat.inv
 split
 ·rename_i h1
  rw[Iz h1];simp[ck,ac]
 ·split
  ·rename_i h1
   rw[IA h1];simp[ck,ac]
  ·omega
def LQ (k:Nat)(q:Rat):Prop:=(wds (ac q.num)).length<=k/\(wds q.den).length<=k
theorem dK (n:Nat)(w:World)(h:Hp)(g:G w h):CV 36 #[.bool false,nv n] w h (iv (n:Int)):=vT n w h g
theorem iz (x y:Int)(d:Nat)(c:d=ID (ac x) (ac y))(b:(wds (ac x)).length<=1000000000)(a:(wds (ac y)).length<=1000000000)(w:World)(h:Hp)(g:G w h)(e:Tab h):CV 35 #[iv x,iv y] w h (nv d):=by
 subst c;exact GC x y b a w h g e
theorem xq {n:Nat}:nb n=1↔n=1:=by
 rcases yW n with h|h
 ·subst h;simp[nb]
 ·have h1:=cj h
  constructor
  ·intro e;rw[e] at h1;omega
  ·intro e;subst e;rfl
theorem oR {n:Nat}:nb n=0↔n=0:=by
 rcases ki n with ⟨h1,h2⟩|⟨h1,h2⟩<;>omega
theorem kf {q:Rat}(h:q.den=1):qd q=0:=by unfold qd;rw[if_pos h]
theorem Cr {q:Rat}(h:q.den≠1):qd q=q.den:=by unfold qd;rw[if_neg h]
theorem xw {q:Rat}:qd q=0↔q.den=1:=by
 unfold qd
 have:=q.den_pos
 split<;>omega
theorem HS (q:Rat):(((nb (qd q):Nat):Int) == (0:Int))=decide (q.den=1):=by
 rw[Bool.eq_iff_iff]
 simp only[beq_iff_eq,decide_eq_true_eq]
 rw[<-xw,<-oR]
 omega
theorem iw {q:Rat}{z:Int}{d:Nat}(hz:q.num=z)(a:qd q=d):Value.agg #[.bool (ax z),.int .u64 (lo (ac z)),.string (hi (ac z)),.int .u64 (lo d),.string (hi d)]=qv q:=by subst hz a;rfl
theorem LQ.qd {k:Nat}{q:Rat}(h:LQ k q):(wds (qd q)).length<=k:=by
 unfold Go.Proofs.YtcbgbcghmndlmaaGreatDoor.qd
 split
 ·exact In _
 ·exact h.2
theorem FZ (a:Rat)(ha:LQ 1000000000 a)(w:World)(h:Hp)(g:G w h):CV 38 #[iv a.num,nv a.den] w h (qv a):=by
 have b:=sS g;obtain ⟨f,i⟩:=ha;have j:=@xq a.den;refine go Tryz.func38 [(0,iv a.num),(1,nv a.den)] rfl (aD (lA 2 27 (ic a.num) b (fun C w2 z b=>lA 3 25 (nc a.den) b (fun u x l b=>lA 4 29 ca b (fun B y p b=>ag (ab b [.o (nv a.den) 1 0 2] (au 6 b (ff a.den ce _ _ b.g) (fun _ _ b=>?_))))))));cases c:(((nb a.den:Nat):Int) == (1:Int))
 .
  have e:=aq c;exact lB 7 c (am (cK (ab b [.o (iv a.num) 2 0 3,.o (nv a.den) 1 0 2,.v (.agg #[.bool (ax a.num),uV (lo (ac a.num)),.string (hi (ac a.num)),uV (lo a.den),.string (hi a.den)])] (lP 0 0 ([.bool (ax a.num),uV (lo (ac a.num)),.string (hi (ac a.num)),uV (lo a.den),.string (hi a.den)]) b (fun _ b=>ah b [(0,0,5)] (.agg #[.bool (ax a.num),uV (lo (ac a.num)),.string (hi (ac a.num)),uV (lo a.den),.string (hi a.den)]) (iw (q:=a) (d:=a.den) rfl (Cr oM)))))))
 have e:=eq_of_beq c;exact lB 7 c (ar (ab b [.o (iv a.num) 2 0 3,.v (.agg #[.bool (ax a.num),uV (lo (ac a.num)),.string (hi (ac a.num)),uV 0,eS])] (lP 0 0 ([.bool (ax a.num),uV (lo (ac a.num)),.string (hi (ac a.num)),uV 0,eS]) b (fun _ b=>ah b [(0,0,5)] (.agg #[.bool (ax a.num),uV (lo (ac a.num)),.string (hi (ac a.num)),uV 0,eS]) (iw (q:=a) (d:=0) rfl (kf oM))))))
theorem jp (q:Rat)(z:Int)(d:Nat)(hz:q.num=z)(a:d=q.den)(b:LQ 1000000000 q)(w:World)(h:Hp)(g:G w h):CV 38 #[iv z,nv d] w h (qv q):=by
 subst hz a;exact FZ q b w h g
theorem bR (z:Int)(g:Nat)(a:(g:Int)∣z):ac (z/g)<=ac z:=by
 unfold ac
 rcases yW g with h|h
 ·subst h;simp
 ·obtain ⟨k,rfl⟩:=a
  rw[IR _ oM,IP,IQ];exact II _ h
theorem gd (a b:Nat)(C:0<b)(l:(wds a).length<=1000000000)(i:(wds b).length<=1000000000)(w:World)(h:Hp)(g:G w h):CV 37 #[nv a,nv b] w h (nv (a/b)):=by
 have d:=sS g;have u:=@xq b;refine go Tryz.func37 [(0,nv a),(1,nv b)] rfl (aD (lA 2 25 (nc a) d (fun I w2 F d=>lA 3 25 (nc b) d (fun z B x d=>lA 4 25 ([uV 0,eS]) d (fun H D y d=>ag (ab d [.o (nv b) 1 0 2] (au 9 d (ff b ce _ _ d.g) (fun _ _ d=>?_))))))));cases e:(((nb b:Nat):Int) == (1:Int))
 .
  have j:=aq e;exact lB 10 e (am (cK (ab d [.o (nv a) 2 0 2,.o (nv b) 1 0 2] (au 15 d (Gc a b oM aM aM _ _ d.g) (fun _ _ d=>lL d [.c,.v (nv (a/b)),.v (nv (a%b)),.v qT] (lA 5 25 ([uV 0,eS]) d (fun f _ _ d=>lA 6 25 ([uV 0,eS]) d (fun p _ _ d=>lP 1 0 (nc (a/b)) d (fun _ d=>lP 0 0 (nc (a%b)) d (fun _ d=>lL d ae (aK (lL d [.o (nv (a/b)) 1 0 2] (lP 2 0 (nc (a/b)) d (fun _ d=>ah d [(2,0,2)] (nv (a/b)) rfl))))))))))))))
 have j:=eq_of_beq e;exact lB 10 e (ar (ab d [.o (nv a) 2 0 2] (lP 0 0 (nc a) d (fun _ d=>ah d [(0,0,2)] (nv a) (by rw[show b=1 by omega,Nat.div_one])))))
theorem kc (z:Int)(b:Nat)(p:0<b)(e:(b:Int)∣z)(c:(wds (ac z)).length<=1000000000)(d:(wds b).length<=1000000000)(w:World)(h:Hp)(g:G w h):CV 39 #[iv z,nv b] w h (iv (z/b)):=by
 have a:=sS g;have f:(wds (ac z/b)).length<=1000000000:=aw (zy _ _) c;refine go Tryz.func39 [(0,iv z),(1,nv b)] rfl (aD (lA 2 27 (ic z) a (fun B w2 x a=>lA 3 25 (nc b) a (fun l o i a=>lA 4 27 ([qF,uV 0,eS]) a (fun y u j a=>ag (cR 8 [] mixed a ai ?_))))));exact eO 0 5 [(2,0,3)] (iv z) a (eO 3 8 [(2,0,3)] (iv z) a (eO 5 10 [(1,0,2)] (nv b) a (af 1 6 a (fun _ _ a=>k9 z ce _ _ a.g) (fun _ _ a=>eV 2 7 (.bool (decide (((z).sign:Int)<(0:Int)))) (af 4 9 a (fun _ _ a=>vu z _ _ a.g) (fun _ _ a=>af 6 11 a (fun _ _ a=>gd (ac z) b aM ce ce _ _ a.g) (fun _ _ a=>af 7 12 a (fun _ _ a=>fc (decide (((z).sign:Int)<(0:Int))) ((ac z)/b) ce _ _ a.g) (fun _ _ a=>bA a (fun _ _ a=>tP 8 0 0 (ic (ck (decide (((z).sign:Int)<(0:Int))) ((ac z)/b))) a (fun _ a=>tN (kX (a.ret [(0,0,3)] (iv (ck (decide (((z).sign:Int)<(0:Int))) ((ac z)/b))) (congrArg iv (pf z b e))))))))))))))
theorem gA (z:Int)(d:Nat)(f:(wds (ac z)).length+(wds d).length<=1000000000)(w:World)(h:Hp)(g:G w h):CV 32 #[iv z,nv d] w h (iv (z*d)):=by
 have a:=sS g;refine go Tryz.func32 [(0,iv z),(1,nv d)] rfl (aD (lA 2 27 (ic z) a (fun i w2 l a=>lA 3 25 (nc d) a (fun b c e a=>lA 4 27 ([qF,uV 0,eS]) a (fun p j o a=>ag (cR 4 [] mixed a ai ?_))))));exact eO 0 5 [(2,0,3)] (iv z) a (eO 1 6 [(1,0,2)] (nv d) a (af 2 7 a (fun _ _ a=>dK d _ _ a.g) (fun _ _ a=>af 3 8 a (fun _ _ a=>BU z (d:Int) ce _ _ a.g) (fun _ _ a=>bA a (fun _ _ a=>tP 4 0 0 (ic (z*(d:Int))) a (fun _ a=>tN (kX (a.ret [(0,0,3)] (iv (z*(d:Int))) rfl))))))))
theorem k6 (a:Rat)(ha:LQ 100000000 a)(w:World)(h:Hp)(g:G w h):CV 29 #[qv a] w h (.bool (decide (a.den=1))):=by
 have b:=sS g;have d:=ha.qd;exact go Tryz.func29 [(0,qv a)] rfl (aD (lA 1 29 (qc a) b (fun e w2 i b=>lL b ae (aK (lL b [.v (qP e 3),.o (nv (qd a)) 0 3 2] (au 5 b (ff (qd a) ce _ _ b.g) (fun f j b=>lL b [.v (.bool (((nb (qd a):Nat):Int) == (0:Int))),.c] (ah b [] (.bool (((nb (qd a):Nat):Int) == (0:Int))) (congrArg Value.bool (HS a))))))))))
theorem eA (a:Rat)(ha:LQ 100000000 a)(w:World)(h:Hp)(g:G w h):CV 33 #[qv a] w h (nv a.den):=by
 have b:=sS g;refine go Tryz.func33 [(0,qv a)] rfl (aD (lA 1 29 (qc a) b (fun e w2 p b=>lA 2 25 ([uV 0,eS]) b (fun f i l b=>ag (ab b [.o (qv a) 1 0 5] (au 4 b (k6 a aM _ _ b.g) (fun u j b=>?_)))))));cases d:(decide (a.den=1))
 .
  have c:=oF d;exact am (cK (ab b [.v (qP e 3),.o (nv (qd a)) 1 3 2] (lP 0 0 (nc (qd a)) b (fun _ b=>ah b [(0,0,2)] (nv (qd a)) (by rw[Cr (by simpa using (by assumption:decide (a.den=1)=false))])))))
 have c:=oT d;exact ar (aD (au 5 b (Gi 1 oM _ _ b.g) (fun _ _ b=>lP 0 0 (nc 1) b (fun _ b=>ah b [(0,0,2)] (nv 1) (by rw[show a.den=1 by simpa using (by assumption:decide (a.den=1)=true)])))))
theorem Hc (a:Rat)(w:World)(h:Hp)(g:G w h):CV 137 #[qv a] w h (iv a.num):=by
 have b:=sS g;exact go Tryz.func137 [(0,qv a)] rfl (aD (lA 1 29 (qc a) b (fun c w2 i b=>lA 2 27 ([qF,uV 0,eS]) b (fun d e f b=>aK (lL b [.v (pB c),.o (iv a.num) 1 0 3] (lP 0 0 (ic a.num) b (fun j b=>ah b [(0,0,3)] (iv a.num) rfl)))))))
theorem gj (a:Rat)(ha:LQ 100000000 a)(w:World)(h:Hp)(g:G w h):CV 30 #[qv a] w h (iV a.num.sign):=by
 have b:=sS g;obtain ⟨c,d⟩:=ha;exact go Tryz.func30 [(0,qv a)] rfl (aD (lA 1 29 (qc a) b (fun e w2 i b=>lL b ae (aK (lL b [.v (pB e),.o (iv a.num) 0 0 3] (au 5 b (k9 a.num ce _ _ b.g) (fun f j b=>lL b ae (ah b [] (iV ((a.num).sign)) rfl))))))))
theorem mC (z:Int)(h0 : -9223372036854775808<=z)(h1:z<=9223372036854775807)(w:World)(h:Hp)(g:G w h):CV 23 #[iV z] w h (qv (z:Rat)):=by
 have a:=sS g;exact go Tryz.func23 [(0,iV z)] rfl (aD (lA 2 29 ca a (fun c w2 f a=>aK (lL a ae (au 4 a (Hr z oM oM _ _ a.g) (fun b i a=>lL a [.v (.agg #[.bool (ax z),uV (lo (ac z)),.string (hi (ac z)),uV 0,eS])] (lP 0 0 ([.bool (ax z),uV (lo (ac z)),.string (hi (ac z)),uV 0,eS]) a (fun e a=>ah a [(0,0,5)] (.agg #[.bool (ax z),uV (lo (ac z)),.string (hi (ac z)),uV 0,eS]) (iw (d:=0) (I5 z) (kf (I6 z)))))))))))
theorem Cz (a:Rat)(ha:LQ 100000000 a)(w:World)(h:Hp)(g:G w h):CV 60 #[qv a] w h (qv (-a)):=by
 have b:=sS g;obtain ⟨d,e⟩:=ha;refine go Tryz.func60 [(0,qv a)] rfl (aD (lA 1 29 (qc a) b (fun c w2 o b=>lA 2 29 ca b (fun f i j b=>ag (cR 6 [] mixed b ai ?_)))));exact eV 0 3 (pB c) (eO 1 4 [(1,0,3)] (iv a.num) b (eV 3 6 (qP c 3) (eO 4 7 [(1,3,2)] (nv (qd a)) b (af 2 5 b (fun _ _ b=>F0 a.num ce _ _ b.g) (fun p l b=>eV 5 8 (.agg #[.bool (ax (-a.num)),uV (lo (ac (-a.num))),.string (hi (ac (-a.num))),uV (lo (qd a)),.string (hi (qd a))]) (bA b (fun u _ b=>tP 6 0 0 ([.bool (ax (-a.num)),uV (lo (ac (-a.num))),.string (hi (ac (-a.num))),uV (lo (qd a)),.string (hi (qd a))]) b (fun _ b=>tN (kX (b.ret [(0,0,5)] (.agg #[.bool (ax (-a.num)),uV (lo (ac (-a.num))),.string (hi (ac (-a.num))),uV (lo (qd a)),.string (hi (qd a))]) (iw (I7 a) (by unfold qd;rw[I8]))))))))))))
theorem rP (z:Int)(d:Nat)(p:0<d)(l:(wds (ac z)).length<=1000000000)(e:(wds d).length<=1000000000)(w:World)(h:Hp)(g:G w h)(x:Tab h):CV 81 #[iv z,nv d] w h (qv (mkRat z d)):=by
 have a:=((sS g).add (K:=fun y=>Tab y) x);obtain ⟨b,c,i,o⟩:=gt z d p;obtain ⟨q,hq⟩:∃ q,q=ID (ac z) d:=⟨_,rfl⟩;rw[<-hq] at b c i o
 have C:(wds q).length<=1000000000:=aw (by rw[hq];exact I9 _ p) e;have B:LQ 1000000000 (mkRat z d):=⟨by rw[b];exact aw (bR z q i) l,by rw[c];exact aw (zy _ _) e⟩;refine go Tryz.func81 [(0,iv z),(1,nv d)] rfl (aD (lA 2 27 (ic z) a (fun O w2 L a=>lA 3 25 (nc d) a (fun H I D a=>lA 4 29 ca a (fun M J F a=>ag ?_)))));have j:=a;refine cR 5 [⟨4,5,.cells (IL [uV 0,eS]) 25 (0,0)⟩] mixed a (be (dE kR (fun _ _=>by kernel_rfl)) ai) (eO 0 6 [(2,0,3)] (iv z) a (eO 1 7 [(1,0,2)] (nv d) a (af 2 8 a (fun _ _ a=>dK d _ _ a.g) (fun _ _ a=>af 3 9 a (fun _ _ a=>iz z (d:Int) q (by first|assumption|exact hq) ce (show (wds d).length<=1000000000 by first|assumption|omega) _ _ a.g a.f.1) (fun _ _ a=>fi [] j a 25 [uV 0,eS] (fun _ _ u a=>tP 5 0 0 (nc q) a (fun _ a=>tN (cQ (cR 7 [] mixed a ai ?_)))))))));exact eO 0 10 [(3,0,3)] (iv z) a (eO 1 11 [(0,0,2)] (nv q) a (eO 3 13 [(2,0,2)] (nv d) a (eO 4 14 [(0,0,2)] (nv q) a (af 2 12 a (fun _ _ a=>kc z q aM aM ce ce _ _ a.g) (fun _ _ a=>af 5 15 a (fun _ _ a=>gd d q aM ce ce _ _ a.g) (fun _ _ a=>af 6 16 a (fun _ _ a=>jp (mkRat z d) (z/(q:Int)) (d/q) (by first|assumption|exact b|exact (b).symm) (by first|assumption|exact c.symm) aM _ _ a.g) (fun _ _ a=>bA a (fun _ _ a=>tP 7 1 0 (qc (mkRat z d)) a (fun _ a=>tN (kX (a.ret [(1,0,5)] (qv (mkRat z d)) rfl)))))))))))
theorem di (a:Rat)(ha:LQ 100000000 a)(h1:a.den=1)(w:World)(h:Hp)(g:G w h):CV 29 #[qv a] w h (.bool true):=by
 have:=k6 a ha w h g;rwa [decide_eq_true h1] at this
theorem eU (a:Rat)(ha:LQ 100000000 a)(h1:a.den≠1)(w:World)(h:Hp)(g:G w h):CV 29 #[qv a] w h (.bool false):=by
 have:=k6 a ha w h g;rwa [decide_eq_false h1] at this
theorem Cu (x y z:Int)(e:z=x+y)(a:(wds (ac x)).length+(wds (ac y)).length<=999999999)(w:World)(h:Hp)(g:G w h):CV 34 #[iv x,iv y] w h (iv z):=by
 subst e;exact FY x y a w h g
theorem gz (x y:Int):(wds (ac (x*y))).length<=(wds (ac x)).length+(wds (ac y)).length:=by
 have:ac (x*y)=ac x*ac y:=IP x y;rw[this];exact cH
theorem cM (x:Int)(d:Nat):(wds (ac (x*((d:Nat):Int)))).length<=(wds (ac x)).length+(wds d).length:=gz x (d:Int)
theorem pA (x y:Int):(wds (ac (x+y))).length<=(wds (ac x)).length+(wds (ac y)).length+1 :=
 e4 (cn (show ac (x+y)<=ac x+ac y from Ja x y)) jF
theorem ik {a b:Rat}(ha:a.den=1)(c:b.den=1):(a+b).num=a.num+b.num/\(a+b).den=1:=by
 obtain ⟨e1,e2,e,h,f,d⟩:=jO a b 1 1 (a.num+b.num) (by rw[ha,c];rfl) (by rw[ha,c];simp) (by simp);rw[ha,c] at e2
 exact ⟨by simpa using e1,by simpa using e2⟩
theorem ig {a b:Rat}(ha:a.den=1)(c:b.den=1):(a*b).num=a.num*b.num/\(a*b).den=1:=by
 obtain ⟨e1,e2,e,h,f,d⟩:=jX a b 1 1 (by rw[c];simp) (by rw[ha];simp);rw[ha,c] at e2
 exact ⟨by simpa using e1,by simpa using e2⟩
theorem D7 (a b:Rat)(ha:LQ 100000000 a)(B:LQ 100000000 b)(i:a.den=1)(f:b.den=1)(w:World)(h:Hp)(g:G w h)(p:Tab h):CV 14 #[qv a,qv b] w h (qv (a+b)):=by
 have e:=((sS g).add (K:=fun y=>Tab y) p);have l:=ha;have j:=B;obtain ⟨C,D⟩:=l;obtain ⟨u,x⟩:=j;exact go Tryz.func14 [(0,qv a),(1,qv b)] rfl (aD (lA 2 29 (qc a) e (fun F w2 M e=>lA 3 29 (qc b) e (fun z J H e=>lA 4 29 ca e (fun O L I e=>ag (ab e [.o (qv a) 2 0 5] (au 11 e (di a aM aM _ _ e.g) (fun _ _ e=>lL e [.c,.o (qv b) 1 0 5] (au 14 e (di b aM aM _ _ e.g) (fun _ _ e=>lL e [.v qT] (ar (ab e [.v (pB F),.o (iv a.num) 2 0 3,.v (pB z),.o (iv b.num) 1 0 3] (au 20 e (FY a.num b.num ce _ _ e.g) (fun _ _ e=>lL e [.v (.agg #[.bool (ax (a.num+b.num)),uV (lo (ac (a.num+b.num))),.string (hi (ac (a.num+b.num))),uV 0,eS])] (lP 0 0 ([.bool (ax (a.num+b.num)),uV (lo (ac (a.num+b.num))),.string (hi (ac (a.num+b.num))),uV 0,eS]) e (fun _ e=>ah e [(0,0,5)] (.agg #[.bool (ax (a.num+b.num)),uV (lo (ac (a.num+b.num))),.string (hi (ac (a.num+b.num))),uV 0,eS]) (iw (d:=0) (ik i f).1 (kf (ik i f).2))))))))))))))))))
theorem CH (a b:Rat)(ha:LQ 100000000 a)(B:LQ 100000000 b)(W:a.den≠1)(w:World)(h:Hp)(g:G w h)(I:Tab h):CV 14 #[qv a,qv b] w h (qv (a+b)):=by
 have c:=((sS g).add (K:=fun O=>Tab O) I);have C:=ha;have y:=B;obtain ⟨ha1,l⟩:=ha;obtain ⟨J,j⟩:=B;obtain ⟨q,hq⟩:∃ q,q=ID a.den b.den:=⟨_,rfl⟩;obtain ⟨up,hup⟩:∃ up,up=a.num*((b.den/q:Nat):Int)+b.num*((a.den/q:Nat):Int):=⟨_,rfl⟩;obtain ⟨r,hr⟩:∃ r,r=ID (ac up) q:=⟨_,rfl⟩;obtain ⟨e,u,z,S,H,x⟩:=jO a b q r up hq hup hr;have D:(wds q).length<=100000000:=aw (by rw[hq];exact IK _ a.den_pos) l;have hrl:(wds r).length<=100000000:=aw (by rw[hr];exact I9 _ x) D;have U:(wds (a.den/q)).length<=100000000:=aw (zy _ _) l;have hbq:(wds (b.den/q)).length<=100000000:=aw (zy _ _) j;have hbr:(wds (b.den/r)).length<=100000000:=aw (zy _ _) j;have Y:=cM a.num (b.den/q);have X:=cM b.num (a.den/q);have hul:(wds (ac up)).length<=999999999:=e4 (by rw[hup];exact pA _ _) oM;have Z:=@cH (a.den/q) (b.den/r);have hLQ:LQ 1000000000 (a+b):=⟨by rw[e];exact aw (bR up r z) oM,by rw[u];omega⟩;have ha:=C;have B:=y;refine go Tryz.func14 [(0,qv a),(1,qv b)] rfl (aD (lA 2 29 (qc a) c (fun b1 w2 h3 c=>lA 3 29 (qc b) c (fun F w5 h6 c=>lA 4 29 ca c (fun b7 w8 h9 c=>ag (ab c [.o (qv a) 2 0 5] (au 11 c (eU a aM aM _ _ c.g) (fun _ _ c=>lL c ae (lG 13 ?_)))))))));refine lG 14 (lL c [.v qF] (am (cK (cQ ?_))));have d:=c;refine cR 8 [⟨7,5,.cells (IL [uV 0,eS]) 25 (0,0)⟩] mixed c (be (dE kR (fun _ _=>by kernel_rfl)) ai) (eO 0 22 [(2,0,5)] (qv a) c (eO 3 25 [(1,0,5)] (qv b) c (af 1 23 c (fun _ _ c=>eA a aM _ _ c.g) (fun _ _ c=>af 2 24 c (fun _ _ c=>dK a.den _ _ c.g) (fun _ _ c=>af 4 26 c (fun _ _ c=>eA b aM _ _ c.g) (fun _ _ c=>af 5 27 c (fun _ _ c=>dK b.den _ _ c.g) (fun _ _ c=>af 6 28 c (fun _ _ c=>iz (a.den:Int) (b.den:Int) q (by first|assumption|exact hq) (show (wds a.den).length<=1000000000 by first|assumption|omega) (show (wds b.den).length<=1000000000 by first|assumption|omega) _ _ c.g c.f.1) (fun _ _ c=>fi [] d c 25 [uV 0,eS] (fun _ _ V c=>tP 8 0 0 (nc q) c (fun _ c=>tN (cQ ?_)))))))))));have d:=c;refine B5 10 [⟨8,6,.cells (IL [uV 0,eS]) 25 (0,0)⟩,⟨9,7,.cells (IL [uV 0,eS]) 25 (0,0)⟩] [] mixed c (be (dE kR (fun _ _=>by kernel_rfl)) (be (dE kR (fun _ _=>by kernel_rfl)) ai)) (eO 0 29 [(3,0,5)] (qv a) c (eO 2 31 [(0,0,2)] (nv q) c (wP 4 33 [(2,0,5)] (qv b) d c (wP 6 35 [(0,0,2)] (nv q) d c (af 1 30 c (fun _ _ c=>eA a aM _ _ c.g) (fun _ _ c=>af 3 32 c (fun _ _ c=>gd a.den q aM ce ce _ _ c.g) (fun _ _ c=>af 5 34 c (fun _ _ c=>eA b aM _ _ c.g) (fun _ _ c=>af 7 36 c (fun _ _ c=>gd b.den q aM ce ce _ _ c.g) (fun _ _ c=>CT d c 25 [uV 0,eS] 25 [uV 0,eS] (fun _ _ za M p i c=>tP 10 0 0 (nc (a.den/q)) c (fun _ c=>?_) (hz:=gU p)))))))))));refine tP 11 1 0 (nc (b.den/q)) c (fun _ c=>?_) (hz:=gU i);refine tN (cQ ?_);have d:=c;refine cR 10 [⟨9,8,.cells (IL [qF,uV 0,eS]) 27 (0,0)⟩] mixed c (be (dE kR (fun _ _=>by kernel_rfl)) ai) (eV 0 37 (pB b1) (eO 1 38 [(5,0,3)] (iv a.num) c (eO 2 39 [(1,0,2)] (nv (b.den/q)) c (eV 4 41 (pB F) (eO 5 42 [(4,0,3)] (iv b.num) c (eO 6 43 [(0,0,2)] (nv (a.den/q)) c (af 3 40 c (fun _ _ c=>gA a.num (b.den/q) ce _ _ c.g) (fun _ _ c=>af 7 44 c (fun _ _ c=>gA b.num (a.den/q) ce _ _ c.g) (fun _ _ c=>af 8 45 c (fun _ _ c=>Cu (a.num*(((b.den/q):Nat):Int)) (b.num*(((a.den/q):Nat):Int)) up hup oM _ _ c.g) (fun _ _ c=>fi [] d c 27 [qF,uV 0,eS] (fun _ _ Q c=>tP 10 0 0 (ic up) c (fun _ c=>tN (cQ ?_)))))))))))));have d:=c;refine cR 5 [⟨4,9,.cells (IL [uV 0,eS]) 25 (0,0)⟩] mixed c (be (dE kR (fun _ _=>by kernel_rfl)) ai) (eO 0 46 [(0,0,3)] (iv up) c (eO 1 47 [(3,0,2)] (nv q) c (af 2 48 c (fun _ _ c=>dK q _ _ c.g) (fun _ _ c=>af 3 49 c (fun _ _ c=>iz up (q:Int) r (by first|assumption|exact hr) ce (show (wds q).length<=1000000000 by first|assumption|omega) _ _ c.g c.f.1) (fun _ _ c=>fi [] d c 25 [uV 0,eS] (fun _ _ L c=>tP 5 0 0 (nc r) c (fun _ c=>tN (bY [(3,pB F),(4,pB b7),(6,pB za),(8,pB Q),(9,pB L)] ?_))))))));refine cQ (cR 10 [] mixed c ai ?_);exact eO 0 50 [(1,0,3)] (iv up) c (eO 1 51 [(0,0,2)] (nv r) c (eO 3 53 [(2,0,2)] (nv (a.den/q)) c (eO 4 54 [(6,0,5)] (qv b) c (eO 6 56 [(0,0,2)] (nv r) c (af 2 52 c (fun _ _ c=>kc up r aM aM ce ce _ _ c.g) (fun _ _ c=>af 5 55 c (fun _ _ c=>eA b aM _ _ c.g) (fun _ _ c=>af 7 57 c (fun _ _ c=>gd b.den r aM ce ce _ _ c.g) (fun _ _ c=>af 8 58 c (fun _ _ c=>ot (a.den/q) (b.den/r) ce ce _ _ c.g) (fun _ _ c=>af 9 59 c (fun _ _ c=>jp (a+b) (up/(r:Int)) ((a.den/q)*(b.den/r)) (by first|assumption|exact e|exact (e).symm) (by first|assumption|exact u.symm) aM _ _ c.g) (fun _ _ c=>bA c (fun _ _ c=>tP 10 5 0 (qc (a+b)) c (fun _ c=>tN (kX (c.ret [(5,0,5)] (qv (a+b)) rfl))))))))))))))
theorem D3 (a b:Rat)(ha:LQ 100000000 a)(C:LQ 100000000 b)(X:a.den=1)(O:b.den≠1)(w:World)(h:Hp)(g:G w h)(L:Tab h):CV 14 #[qv a,qv b] w h (qv (a+b)):=by
 have d:=((sS g).add (K:=fun S=>Tab S) L);have D:=ha;have z:=C;obtain ⟨ha1,p⟩:=ha;obtain ⟨M,j⟩:=C;obtain ⟨q,hq⟩:∃ q,q=ID a.den b.den:=⟨_,rfl⟩;obtain ⟨up,hup⟩:∃ up,up=a.num*((b.den/q:Nat):Int)+b.num*((a.den/q:Nat):Int):=⟨_,rfl⟩;obtain ⟨r,hr⟩:∃ r,r=ID (ac up) q:=⟨_,rfl⟩;obtain ⟨i,u,B,V,J,y⟩:=jO a b q r up hq hup hr;have F:(wds q).length<=100000000:=aw (by rw[hq];exact IK _ a.den_pos) p;have hrl:(wds r).length<=100000000:=aw (by rw[hr];exact I9 _ y) F;have W:(wds (a.den/q)).length<=100000000:=aw (zy _ _) p;have hbq:(wds (b.den/q)).length<=100000000:=aw (zy _ _) j;have hbr:(wds (b.den/r)).length<=100000000:=aw (zy _ _) j;have hx1:=cM a.num (b.den/q);have Y:=cM b.num (a.den/q);have hul:(wds (ac up)).length<=999999999:=e4 (by rw[hup];exact pA _ _) oM;have hdl:=@cH (a.den/q) (b.den/r);have hLQ:LQ 1000000000 (a+b):=⟨by rw[i];exact aw (bR up r B) oM,by rw[u];omega⟩;have ha:=D;have C:=z;refine go Tryz.func14 [(0,qv a),(1,qv b)] rfl (aD (lA 2 29 (qc a) d (fun b1 w2 h3 d=>lA 3 29 (qc b) d (fun H w5 h6 d=>lA 4 29 ca d (fun b7 w8 h9 d=>ag (ab d [.o (qv a) 2 0 5] (au 11 d (di a aM aM _ _ d.g) (fun _ _ d=>lL d [.c,.o (qv b) 1 0 5] (au 14 d (eU b aM aM _ _ d.g) (fun _ _ d=>lL d [.v qF] (am (cK (cQ ?_)))))))))))));have e:=d;refine cR 8 [⟨7,5,.cells (IL [uV 0,eS]) 25 (0,0)⟩] mixed d (be (dE kR (fun _ _=>by kernel_rfl)) ai) (eO 0 22 [(2,0,5)] (qv a) d (eO 3 25 [(1,0,5)] (qv b) d (af 1 23 d (fun _ _ d=>eA a aM _ _ d.g) (fun _ _ d=>af 2 24 d (fun _ _ d=>dK a.den _ _ d.g) (fun _ _ d=>af 4 26 d (fun _ _ d=>eA b aM _ _ d.g) (fun _ _ d=>af 5 27 d (fun _ _ d=>dK b.den _ _ d.g) (fun _ _ d=>af 6 28 d (fun _ _ d=>iz (a.den:Int) (b.den:Int) q (by first|assumption|exact hq) (show (wds a.den).length<=1000000000 by first|assumption|omega) (show (wds b.den).length<=1000000000 by first|assumption|omega) _ _ d.g d.f.1) (fun _ _ d=>fi [] e d 25 [uV 0,eS] (fun _ _ Z d=>tP 8 0 0 (nc q) d (fun _ d=>tN (cQ ?_)))))))))));have e:=d;refine B5 10 [⟨8,6,.cells (IL [uV 0,eS]) 25 (0,0)⟩,⟨9,7,.cells (IL [uV 0,eS]) 25 (0,0)⟩] [] mixed d (be (dE kR (fun _ _=>by kernel_rfl)) (be (dE kR (fun _ _=>by kernel_rfl)) ai)) (eO 0 29 [(3,0,5)] (qv a) d (eO 2 31 [(0,0,2)] (nv q) d (wP 4 33 [(2,0,5)] (qv b) e d (wP 6 35 [(0,0,2)] (nv q) e d (af 1 30 d (fun _ _ d=>eA a aM _ _ d.g) (fun _ _ d=>af 3 32 d (fun _ _ d=>gd a.den q aM ce ce _ _ d.g) (fun _ _ d=>af 5 34 d (fun _ _ d=>eA b aM _ _ d.g) (fun _ _ d=>af 7 36 d (fun _ _ d=>gd b.den q aM ce ce _ _ d.g) (fun _ _ d=>CT e d 25 [uV 0,eS] 25 [uV 0,eS] (fun _ _ za I x l d=>tP 10 0 0 (nc (a.den/q)) d (fun _ d=>?_) (hz:=gU x)))))))))));refine tP 11 1 0 (nc (b.den/q)) d (fun _ d=>?_) (hz:=gU l);refine tN (cQ ?_);have e:=d;refine cR 10 [⟨9,8,.cells (IL [qF,uV 0,eS]) 27 (0,0)⟩] mixed d (be (dE kR (fun _ _=>by kernel_rfl)) ai) (eV 0 37 (pB b1) (eO 1 38 [(5,0,3)] (iv a.num) d (eO 2 39 [(1,0,2)] (nv (b.den/q)) d (eV 4 41 (pB H) (eO 5 42 [(4,0,3)] (iv b.num) d (eO 6 43 [(0,0,2)] (nv (a.den/q)) d (af 3 40 d (fun _ _ d=>gA a.num (b.den/q) ce _ _ d.g) (fun _ _ d=>af 7 44 d (fun _ _ d=>gA b.num (a.den/q) ce _ _ d.g) (fun _ _ d=>af 8 45 d (fun _ _ d=>Cu (a.num*(((b.den/q):Nat):Int)) (b.num*(((a.den/q):Nat):Int)) up hup oM _ _ d.g) (fun _ _ d=>fi [] e d 27 [qF,uV 0,eS] (fun _ _ U d=>tP 10 0 0 (ic up) d (fun _ d=>tN (cQ ?_)))))))))))));have e:=d;refine cR 5 [⟨4,9,.cells (IL [uV 0,eS]) 25 (0,0)⟩] mixed d (be (dE kR (fun _ _=>by kernel_rfl)) ai) (eO 0 46 [(0,0,3)] (iv up) d (eO 1 47 [(3,0,2)] (nv q) d (af 2 48 d (fun _ _ d=>dK q _ _ d.g) (fun _ _ d=>af 3 49 d (fun _ _ d=>iz up (q:Int) r (by first|assumption|exact hr) ce (show (wds q).length<=1000000000 by first|assumption|omega) _ _ d.g d.f.1) (fun _ _ d=>fi [] e d 25 [uV 0,eS] (fun _ _ Q d=>tP 5 0 0 (nc r) d (fun _ d=>tN (bY [(3,pB H),(4,pB b7),(6,pB za),(8,pB U),(9,pB Q)] ?_))))))));refine cQ (cR 10 [] mixed d ai ?_);exact eO 0 50 [(1,0,3)] (iv up) d (eO 1 51 [(0,0,2)] (nv r) d (eO 3 53 [(2,0,2)] (nv (a.den/q)) d (eO 4 54 [(6,0,5)] (qv b) d (eO 6 56 [(0,0,2)] (nv r) d (af 2 52 d (fun _ _ d=>kc up r aM aM ce ce _ _ d.g) (fun _ _ d=>af 5 55 d (fun _ _ d=>eA b aM _ _ d.g) (fun _ _ d=>af 7 57 d (fun _ _ d=>gd b.den r aM ce ce _ _ d.g) (fun _ _ d=>af 8 58 d (fun _ _ d=>ot (a.den/q) (b.den/r) ce ce _ _ d.g) (fun _ _ d=>af 9 59 d (fun _ _ d=>jp (a+b) (up/(r:Int)) ((a.den/q)*(b.den/r)) (by first|assumption|exact i|exact (i).symm) (by first|assumption|exact u.symm) aM _ _ d.g) (fun _ _ d=>bA d (fun _ _ d=>tP 10 5 0 (qc (a+b)) d (fun _ d=>tN (kX (d.ret [(5,0,5)] (qv (a+b)) rfl))))))))))))))
theorem gh (a b:Rat)(ha:LQ 100000000 a)(d:LQ 100000000 b)(w:World)(h:Hp)(g:G w h)(c:Tab h):CV 14 #[qv a,qv b] w h (qv (a+b)):=by
 by_cases h1:a.den=1
 ·by_cases h2:b.den=1
  ·exact D7 a b ha d h1 h2 w h g c
  ·exact D3 a b ha d h1 h2 w h g c
 ·exact CH a b ha d h1 w h g c
theorem Eg (a b:Rat)(ha:LQ 100000000 a)(B:LQ 100000000 b)(i:a.den=1)(f:b.den=1)(w:World)(h:Hp)(g:G w h)(p:Tab h):CV 15 #[qv a,qv b] w h (qv (a*b)):=by
 have e:=((sS g).add (K:=fun y=>Tab y) p);have l:=ha;have j:=B;obtain ⟨C,D⟩:=l;obtain ⟨u,x⟩:=j;exact go Tryz.func15 [(0,qv a),(1,qv b)] rfl (aD (lA 2 29 (qc a) e (fun F w2 M e=>lA 3 29 (qc b) e (fun z J H e=>lA 4 29 ca e (fun O L I e=>ag (ab e [.o (qv a) 2 0 5] (au 8 e (di a aM aM _ _ e.g) (fun _ _ e=>lL e [.c,.o (qv b) 1 0 5] (au 11 e (di b aM aM _ _ e.g) (fun _ _ e=>lL e [.v qT] (ar (ab e [.v (pB F),.o (iv a.num) 2 0 3,.v (pB z),.o (iv b.num) 1 0 3] (au 17 e (BU a.num b.num ce _ _ e.g) (fun _ _ e=>lL e [.v (.agg #[.bool (ax (a.num*b.num)),uV (lo (ac (a.num*b.num))),.string (hi (ac (a.num*b.num))),uV 0,eS])] (lP 0 0 ([.bool (ax (a.num*b.num)),uV (lo (ac (a.num*b.num))),.string (hi (ac (a.num*b.num))),uV 0,eS]) e (fun _ e=>ah e [(0,0,5)] (.agg #[.bool (ax (a.num*b.num)),uV (lo (ac (a.num*b.num))),.string (hi (ac (a.num*b.num))),uV 0,eS]) (iw (d:=0) (ig i f).1 (kf (ig i f).2))))))))))))))))))
theorem CC (a b:Rat)(ha:LQ 100000000 a)(z:LQ 100000000 b)(O:a.den≠1)(w:World)(h:Hp)(g:G w h)(I:Tab h):CV 15 #[qv a,qv b] w h (qv (a*b)):=by
 have c:=((sS g).add (K:=fun L=>Tab L) I);have B:=ha;have u:=z;obtain ⟨C,j⟩:=ha;obtain ⟨p,i⟩:=z;obtain ⟨q,hq⟩:∃ q,q=ID (ac a.num) b.den:=⟨_,rfl⟩;obtain ⟨r,hr⟩:∃ r,r=ID (ac b.num) a.den:=⟨_,rfl⟩;obtain ⟨e,l,y,x,J,H⟩:=jX a b q r hq hr;have hql:(wds q).length<=100000000:=aw (by rw[hq];exact I9 _ b.den_pos) i;have W:(wds r).length<=100000000:=aw (by rw[hr];exact I9 _ a.den_pos) j;have M:(wds (ac (a.num/(q:Int)))).length<=100000000:=aw (bR _ _ y) C;have X:(wds (ac (b.num/(r:Int)))).length<=100000000:=aw (bR _ _ x) p;have Q:(wds (a.den/r)).length<=100000000:=aw (zy _ _) j;have hbq:(wds (b.den/q)).length<=100000000:=aw (zy _ _) i;have U:=@cH (a.den/r) (b.den/q);have hnl:=gz (a.num/(q:Int)) (b.num/(r:Int));have Z:LQ 1000000000 (a*b):=⟨by rw[e];omega,by rw[l];omega⟩;have ha:=B;have z:=u;refine go Tryz.func15 [(0,qv a),(1,qv b)] rfl (aD (lA 2 29 (qc a) c (fun F w2 h3 c=>lA 3 29 (qc b) c (fun D w5 h6 c=>lA 4 29 ca c (fun V w8 h9 c=>ag (ab c [.o (qv a) 2 0 5] (au 8 c (eU a aM aM _ _ c.g) (fun _ _ c=>lL c ae (lG 10 ?_)))))))));refine lG 11 (lL c [.v qF] (am (cK (cQ ?_))));have d:=c;refine cR 7 [⟨6,5,.cells (IL [uV 0,eS]) 25 (0,0)⟩] mixed c (be (dE kR (fun _ _=>by kernel_rfl)) ai) (eV 0 19 (pB F) (eO 1 20 [(2,0,3)] (iv a.num) c (eO 2 21 [(1,0,5)] (qv b) c (af 3 22 c (fun _ _ c=>eA b aM _ _ c.g) (fun _ _ c=>af 4 23 c (fun _ _ c=>dK b.den _ _ c.g) (fun _ _ c=>af 5 24 c (fun _ _ c=>iz a.num (b.den:Int) q (by first|assumption|exact hq) ce (show (wds b.den).length<=1000000000 by first|assumption|omega) _ _ c.g c.f.1) (fun _ _ c=>fi [] d c 25 [uV 0,eS] (fun _ _ Y c=>tP 7 0 0 (nc q) c (fun _ c=>tN (cQ ?_))))))))));have d:=c;refine cR 7 [⟨6,6,.cells (IL [uV 0,eS]) 25 (0,0)⟩] mixed c (be (dE kR (fun _ _=>by kernel_rfl)) ai) (eV 0 25 (pB D) (eO 1 26 [(2,0,3)] (iv b.num) c (eO 2 27 [(3,0,5)] (qv a) c (af 3 28 c (fun _ _ c=>eA a aM _ _ c.g) (fun _ _ c=>af 4 29 c (fun _ _ c=>dK a.den _ _ c.g) (fun _ _ c=>af 5 30 c (fun _ _ c=>iz b.num (a.den:Int) r (by first|assumption|exact hr) ce (show (wds a.den).length<=1000000000 by first|assumption|omega) _ _ c.g c.f.1) (fun _ _ c=>fi [] d c 25 [uV 0,eS] (fun _ _ S c=>tP 7 0 0 (nc r) c (fun _ c=>tN (cQ (cR 19 [] mixed c ai ?_)))))))))));refine eV 0 31 (pB F) (eO 1 32 [(4,0,3)] (iv a.num) c (eO 2 33 [(1,0,2)] (nv q) c (eV 4 35 (pB D) (eO 5 36 [(3,0,3)] (iv b.num) c (eO 6 37 [(0,0,2)] (nv r) c (eO 9 40 [(4,0,5)] (qv a) c (eO 11 42 [(0,0,2)] (nv r) c (eO 13 44 [(3,0,5)] (qv b) c (eO 15 46 [(1,0,2)] (nv q) c (af 3 34 c (fun _ _ c=>kc a.num q aM aM ce ce _ _ c.g) (fun _ _ c=>af 7 38 c (fun _ _ c=>kc b.num r aM aM ce ce _ _ c.g) (fun _ _ c=>af 8 39 c (fun _ _ c=>BU (a.num/(q:Int)) (b.num/(r:Int)) ce _ _ c.g) (fun _ _ c=>af 10 41 c (fun _ _ c=>eA a aM _ _ c.g) (fun _ _ c=>af 12 43 c (fun _ _ c=>gd a.den r aM ce ce _ _ c.g) (fun _ _ c=>af 14 45 c (fun _ _ c=>eA b aM _ _ c.g) (fun _ _ c=>af 16 47 c (fun _ _ c=>gd b.den q aM ce ce _ _ c.g) (fun _ _ c=>af 17 48 c (fun _ _ c=>ot (a.den/r) (b.den/q) ce ce _ _ c.g) (fun _ _ c=>af 18 49 c (fun _ _ c=>jp (a*b) ((a.num/(q:Int))*(b.num/(r:Int))) ((a.den/r)*(b.den/q)) (by first|assumption|exact e|exact (e).symm) (by first|assumption|exact l.symm) aM _ _ c.g) (fun _ _ c=>bA c (fun _ _ c=>tP 19 2 0 (qc (a*b)) c (fun _ c=>tN (bY [(4,pB V)] ?_))))))))))))))))))))));exact kX (c.ret [(2,0,5)] (qv (a*b)) rfl)
theorem Em (a b:Rat)(ha:LQ 100000000 a)(B:LQ 100000000 b)(U:a.den=1)(M:b.den≠1)(w:World)(h:Hp)(g:G w h)(J:Tab h):CV 15 #[qv a,qv b] w h (qv (a*b)):=by
 have d:=((sS g).add (K:=fun O=>Tab O) J);have C:=ha;have x:=B;obtain ⟨D,l⟩:=ha;obtain ⟨u,j⟩:=B;obtain ⟨q,hq⟩:∃ q,q=ID (ac a.num) b.den:=⟨_,rfl⟩;obtain ⟨r,hr⟩:∃ r,r=ID (ac b.num) a.den:=⟨_,rfl⟩;obtain ⟨i,p,z,y,L,I⟩:=jX a b q r hq hr;have hql:(wds q).length<=100000000:=aw (by rw[hq];exact I9 _ b.den_pos) j;have Z:(wds r).length<=100000000:=aw (by rw[hr];exact I9 _ a.den_pos) l;have Q:(wds (ac (a.num/(q:Int)))).length<=100000000:=aw (bR _ _ z) D;have hbr:(wds (ac (b.num/(r:Int)))).length<=100000000:=aw (bR _ _ y) u;have V:(wds (a.den/r)).length<=100000000:=aw (zy _ _) l;have hbq:(wds (b.den/q)).length<=100000000:=aw (zy _ _) j;have X:=@cH (a.den/r) (b.den/q);have hnl:=gz (a.num/(q:Int)) (b.num/(r:Int));have hLQ:LQ 1000000000 (a*b):=⟨by rw[i];omega,by rw[p];omega⟩;have ha:=C;have B:=x;refine go Tryz.func15 [(0,qv a),(1,qv b)] rfl (aD (lA 2 29 (qc a) d (fun H w2 h3 d=>lA 3 29 (qc b) d (fun F w5 h6 d=>lA 4 29 ca d (fun Y w8 h9 d=>ag (ab d [.o (qv a) 2 0 5] (au 8 d (di a aM aM _ _ d.g) (fun _ _ d=>lL d [.c,.o (qv b) 1 0 5] (au 11 d (eU b aM aM _ _ d.g) (fun _ _ d=>lL d [.v qF] (am (cK (cQ ?_)))))))))))));have e:=d;refine cR 7 [⟨6,5,.cells (IL [uV 0,eS]) 25 (0,0)⟩] mixed d (be (dE kR (fun _ _=>by kernel_rfl)) ai) (eV 0 19 (pB H) (eO 1 20 [(2,0,3)] (iv a.num) d (eO 2 21 [(1,0,5)] (qv b) d (af 3 22 d (fun _ _ d=>eA b aM _ _ d.g) (fun _ _ d=>af 4 23 d (fun _ _ d=>dK b.den _ _ d.g) (fun _ _ d=>af 5 24 d (fun _ _ d=>iz a.num (b.den:Int) q (by first|assumption|exact hq) ce (show (wds b.den).length<=1000000000 by first|assumption|omega) _ _ d.g d.f.1) (fun _ _ d=>fi [] e d 25 [uV 0,eS] (fun _ _ S d=>tP 7 0 0 (nc q) d (fun _ d=>tN (cQ ?_))))))))));have e:=d;refine cR 7 [⟨6,6,.cells (IL [uV 0,eS]) 25 (0,0)⟩] mixed d (be (dE kR (fun _ _=>by kernel_rfl)) ai) (eV 0 25 (pB F) (eO 1 26 [(2,0,3)] (iv b.num) d (eO 2 27 [(3,0,5)] (qv a) d (af 3 28 d (fun _ _ d=>eA a aM _ _ d.g) (fun _ _ d=>af 4 29 d (fun _ _ d=>dK a.den _ _ d.g) (fun _ _ d=>af 5 30 d (fun _ _ d=>iz b.num (a.den:Int) r (by first|assumption|exact hr) ce (show (wds a.den).length<=1000000000 by first|assumption|omega) _ _ d.g d.f.1) (fun _ _ d=>fi [] e d 25 [uV 0,eS] (fun _ _ W d=>tP 7 0 0 (nc r) d (fun _ d=>tN (cQ (cR 19 [] mixed d ai ?_)))))))))));refine eV 0 31 (pB H) (eO 1 32 [(4,0,3)] (iv a.num) d (eO 2 33 [(1,0,2)] (nv q) d (eV 4 35 (pB F) (eO 5 36 [(3,0,3)] (iv b.num) d (eO 6 37 [(0,0,2)] (nv r) d (eO 9 40 [(4,0,5)] (qv a) d (eO 11 42 [(0,0,2)] (nv r) d (eO 13 44 [(3,0,5)] (qv b) d (eO 15 46 [(1,0,2)] (nv q) d (af 3 34 d (fun _ _ d=>kc a.num q aM aM ce ce _ _ d.g) (fun _ _ d=>af 7 38 d (fun _ _ d=>kc b.num r aM aM ce ce _ _ d.g) (fun _ _ d=>af 8 39 d (fun _ _ d=>BU (a.num/(q:Int)) (b.num/(r:Int)) ce _ _ d.g) (fun _ _ d=>af 10 41 d (fun _ _ d=>eA a aM _ _ d.g) (fun _ _ d=>af 12 43 d (fun _ _ d=>gd a.den r aM ce ce _ _ d.g) (fun _ _ d=>af 14 45 d (fun _ _ d=>eA b aM _ _ d.g) (fun _ _ d=>af 16 47 d (fun _ _ d=>gd b.den q aM ce ce _ _ d.g) (fun _ _ d=>af 17 48 d (fun _ _ d=>ot (a.den/r) (b.den/q) ce ce _ _ d.g) (fun _ _ d=>af 18 49 d (fun _ _ d=>jp (a*b) ((a.num/(q:Int))*(b.num/(r:Int))) ((a.den/r)*(b.den/q)) (by first|assumption|exact i|exact (i).symm) (by first|assumption|exact p.symm) aM _ _ d.g) (fun _ _ d=>bA d (fun _ _ d=>tP 19 2 0 (qc (a*b)) d (fun _ d=>tN (bY [(4,pB Y)] ?_))))))))))))))))))))));exact kX (d.ret [(2,0,5)] (qv (a*b)) rfl)
theorem dm (a b:Rat)(ha:LQ 100000000 a)(d:LQ 100000000 b)(w:World)(h:Hp)(g:G w h)(c:Tab h):CV 15 #[qv a,qv b] w h (qv (a*b)):=by
 by_cases h1:a.den=1
 ·by_cases h2:b.den=1
  ·exact Eg a b ha d h1 h2 w h g c
  ·exact Em a b ha d h1 h2 w h g c
 ·exact CC a b ha d h1 w h g c
theorem LQ.neg {k:Nat}{a:Rat}(h:LQ k a):LQ k (-a):=⟨by rw[I7];unfold ac;rw[Jb];exact h.1,by rw[I8];exact h.2⟩
theorem te (a b:Rat)(ha:LQ 100000000 a)(i:LQ 100000000 b)(w:World)(h:Hp)(g:G w h)(d:Tab h):CV 24 #[qv a,qv b] w h (qv (a-b)):=by
 have c:=((sS g).add (K:=fun e=>Tab e) d);have j:=i.neg;refine go Tryz.func24 [(0,qv a),(1,qv b)] rfl (aD (lA 2 29 (qc a) c (fun B w2 y c=>lA 3 29 (qc b) c (fun p u l c=>lA 4 29 ca c (fun z x o c=>ag (cR 4 [] mixed c ai ?_))))));exact eO 0 5 [(2,0,5)] (qv a) c (eO 1 6 [(1,0,5)] (qv b) c (af 2 7 c (fun _ _ c=>Cz b aM _ _ c.g) (fun _ _ c=>af 3 8 c (fun _ _ c=>gh a (-b) aM aM _ _ c.g c.f.1) (fun _ _ c=>bA c (fun _ _ c=>tP 4 0 0 (qc (a+(-b))) c (fun _ c=>tN (kX (c.ret [(0,0,5)] (qv (a+(-b))) (by rw[Jc])))))))))
theorem LQ.add {k l:Nat}{a b:Rat}(ha:LQ k a)(z:LQ l b):LQ (k+l+1) (a+b):=by
 obtain ⟨D,f⟩:=ha;obtain ⟨o,c⟩:=z;obtain ⟨q,hq⟩:∃ q,q=ID a.den b.den:=⟨_,rfl⟩;obtain ⟨up,hup⟩:∃ up,up=a.num*((b.den/q:Nat):Int)+b.num*((a.den/q:Nat):Int):=⟨_,rfl⟩;obtain ⟨r,hr⟩:∃ r,r=ID (ac up) q:=⟨_,rfl⟩;obtain ⟨d,h,e,u,i,j⟩:=jO a b q r up hq hup hr;have p:=aw (zy a.den q) f;have F:=aw (zy b.den q) c;have C:=aw (zy b.den r) c;have y:=cM a.num (b.den/q);have x:=cM b.num (a.den/q);have B:=@cH (a.den/q) (b.den/r);refine ⟨?_,by rw[h];omega⟩;rw[d];refine aw (bR up r e) ?_;rw[hup];exact e4 (cn (show ac _<=ac _+ac _ from Ja _ _)) (oW oM oM)
theorem LQ.mul {k l:Nat}{a b:Rat}(ha:LQ k a)(x:LQ l b):LQ (k+l) (a*b):=by
 obtain ⟨c,e⟩:=ha;obtain ⟨h,i⟩:=x;obtain ⟨o,f,d,j,u,p⟩:=jX a b _ _ rfl rfl;refine ⟨?_,?_⟩
 ·rw[o]
  have h1:=aw (bR _ _ d) c;have y:=aw (bR _ _ j) h;exact e4 (gz _ _) oM
 ·rw[f]
  have h1:=aw (zy a.den (ID (ac b.num) a.den)) e;have y:=aw (zy b.den (ID (ac a.num) b.den)) i;exact e4 cH oM
theorem LQ.mono {k l:Nat}{a:Rat}(h:LQ k a)(b:k<=l):LQ l a:=⟨e4 h.1 b,e4 h.2 b⟩
def dJ (a b:Rat):Int:=d4 (a.num*b.den) (b.num*a.den)
theorem fb {a b:Rat}(h1:a.den=1)(c:b.den=1):d4 a.num b.num=dJ a b:=by unfold dJ;rw[h1,c];simp
theorem fL {a b:Rat}(h:(a.num.sign != b.num.sign)=true):d4 a.num b.num=dJ a b:=by
 have h:a.num.sign≠b.num.sign:=by simpa using h
 have ha:=a.den_pos;have e:=b.den_pos
 unfold dJ d4
 rcases IS a.num 0 with p|p|p<;>rcases IS b.num 0 with q|q|q
 ·exact absurd (by rw[Iz p,Iz q]) h
 ·have:a.num*(b.den:Int)<0:=Jd p oM
  rw[q];simp;rw[if_pos p,if_pos this]
 ·have c:a.num*(b.den:Int)<0:=Jd p oM
  have d:0<b.num*(a.den:Int):=Je q oM;rw[if_pos oM,if_pos oM]
 ·have:b.num*(a.den:Int)<0:=Jd q oM
  rw[p];simp;rw[if_neg oM,if_pos q,if_neg oM,if_pos this]
 ·exact absurd (by rw[p,q]) h
 ·have:0<b.num*(a.den:Int):=Je q oM
  rw[p];simp;rw[if_pos q,if_pos this]
 ·have c:0<a.num*(b.den:Int):=Je p oM
  have d:b.num*(a.den:Int)<0:=Jd q oM;rw[if_neg oM,if_pos oM,if_neg oM,if_pos oM]
 ·have:0<a.num*(b.den:Int):=Je p oM
  rw[q];simp;rw[if_neg oM,if_pos p,if_neg oM,if_pos this]
 ·exact absurd (by rw[IA p,IA q]) h
theorem Ej (a b:Rat)(ha:LQ 100000000 a)(y:LQ 100000000 b)(f:a.den=1)(d:b.den=1)(w:World)(h:Hp)(g:G w h):CV 13 #[qv a,qv b] w h (iV (dJ a b)):=by
 have c:=sS g;have i:=ha;have e:=y;obtain ⟨z,B⟩:=i;obtain ⟨j,l⟩:=e;have x:=cM a.num b.den;have u:=cM b.num a.den;refine go Tryz.func13 [(0,qv a),(1,qv b)] rfl (aD (lA 2 29 (qc a) c (fun C w2 I c=>lA 3 29 (qc b) c (fun p H F c=>lL c ae (ag (cQ (cR 13 [] mixed c ai ?_)))))));exact eO 0 5 [(1,0,5)] (qv a) c (af 1 6 c (fun _ _ c=>di a aM aM _ _ c.g) (fun J D c=>eV 2 7 qT (eO 3 8 [(0,0,5)] (qv b) c (af 4 9 c (fun _ _ c=>di b aM aM _ _ c.g) (fun K _ c=>eV 5 10 qT (eV 6 11 qT (eG 7 12 (eG 8 13 (eG 9 14 (eG 10 15 (eG 11 16 (eV 12 17 qT (bA c (fun _ _ c=>tN (bZ (ab c [.v (pB C),.o (iv a.num) 1 0 3,.v (pB p),.o (iv b.num) 0 0 3] (au 22 c (vV a.num b.num ce ce _ _ c.g) (fun _ _ c=>lL c ae (ah c [] (iV (d4 a.num b.num)) (congrArg (Value.int .i64) (by first|rfl|exact fb f d|exact fL ‹_›)))))))))))))))))))))
theorem Db (a b:Rat)(ha:LQ 100000000 a)(B:LQ 100000000 b)(d:a.den≠1)(w:World)(h:Hp)(g:G w h):CV 13 #[qv a,qv b] w h (iV (dJ a b)):=by
 have c:=sS g;have i:=ha;have f:=B;obtain ⟨C,D⟩:=i;obtain ⟨p,u⟩:=f;have z:=cM a.num b.den;have y:=cM b.num a.den;refine go Tryz.func13 [(0,qv a),(1,qv b)] rfl (aD (lA 2 29 (qc a) c (fun l w2 J c=>lA 3 29 (qc b) c (fun j I H c=>lL c ae (ag (cQ (cR 13 [] mixed c ai ?_)))))));refine eO 0 5 [(1,0,5)] (qv a) c (af 1 6 c (fun _ _ c=>eU a aM aM _ _ c.g) (fun K F c=>eV 2 7 qF (eG 3 8 (eG 4 9 (eV 5 10 qF (eV 6 11 qF (eO 7 12 [(1,0,5)] (qv a) c (eO 9 14 [(0,0,5)] (qv b) c (af 8 13 c (fun _ _ c=>gj a aM _ _ c.g) (fun L _ c=>af 10 15 c (fun _ _ c=>gj b aM _ _ c.g) (fun _ _ c=>?_)))))))))));cases e:(((a.num).sign:Int) != ((b.num).sign:Int))
 .
  have x:=aI e;refine eB 11 16 e (eV 12 17 qF (bA c (fun _ _ c=>tN (cD (cK (cQ (cR 11 [] mixed c ai ?_)))))));exact eV 0 23 (pB l) (eO 1 24 [(1,0,3)] (iv a.num) c (eO 2 25 [(0,0,5)] (qv b) c (eV 5 28 (pB j) (eO 6 29 [(0,0,3)] (iv b.num) c (eO 7 30 [(1,0,5)] (qv a) c (af 3 26 c (fun _ _ c=>eA b aM _ _ c.g) (fun _ _ c=>af 4 27 c (fun _ _ c=>gA a.num b.den ce _ _ c.g) (fun _ _ c=>af 8 31 c (fun _ _ c=>eA a aM _ _ c.g) (fun _ _ c=>af 9 32 c (fun _ _ c=>gA b.num a.den ce _ _ c.g) (fun _ _ c=>af 10 33 c (fun _ _ c=>vV (a.num*(b.den:Int)) (b.num*(a.den:Int)) ce ce _ _ c.g) (fun _ _ c=>bA c (fun _ _ c=>tV 11 4 (iV (d4 (a.num*(b.den:Int)) (b.num*(a.den:Int)))) (tN (kX (c.ret [] (iV (d4 (a.num*(b.den:Int)) (b.num*(a.den:Int)))) (congrArg (Value.int .i64) (by first|rfl|exact fb d hwb|exact fL ‹_›)))))))))))))))))
 have x:=aU e;exact eB 11 16 e (eV 12 17 qT (bA c (fun _ _ c=>tN (bZ (ab c [.v (pB l),.o (iv a.num) 1 0 3,.v (pB j),.o (iv b.num) 0 0 3] (au 22 c (vV a.num b.num ce ce _ _ c.g) (fun _ _ c=>lL c ae (ah c [] (iV (d4 a.num b.num)) (congrArg (Value.int .i64) (by first|rfl|exact fb d hwb|exact fL ‹_›))))))))))
theorem DQ (a b:Rat)(ha:LQ 100000000 a)(C:LQ 100000000 b)(e:a.den=1)(d:b.den≠1)(w:World)(h:Hp)(g:G w h):CV 13 #[qv a,qv b] w h (iV (dJ a b)):=by
 have c:=sS g;have j:=ha;have i:=C;obtain ⟨D,F⟩:=j;obtain ⟨u,x⟩:=i;have B:=cM a.num b.den;have z:=cM b.num a.den;refine go Tryz.func13 [(0,qv a),(1,qv b)] rfl (aD (lA 2 29 (qc a) c (fun p w2 K c=>lA 3 29 (qc b) c (fun l J I c=>lL c ae (ag (cQ (cR 13 [] mixed c ai ?_)))))));refine eO 0 5 [(1,0,5)] (qv a) c (af 1 6 c (fun _ _ c=>di a aM aM _ _ c.g) (fun L H c=>eV 2 7 qT (eO 3 8 [(0,0,5)] (qv b) c (af 4 9 c (fun _ _ c=>eU b aM aM _ _ c.g) (fun M _ c=>eV 5 10 qF (eV 6 11 qF (eO 7 12 [(1,0,5)] (qv a) c (eO 9 14 [(0,0,5)] (qv b) c (af 8 13 c (fun _ _ c=>gj a aM _ _ c.g) (fun _ _ c=>af 10 15 c (fun _ _ c=>gj b aM _ _ c.g) (fun _ _ c=>?_)))))))))));cases f:(((a.num).sign:Int) != ((b.num).sign:Int))
 .
  have y:=aI f;refine eB 11 16 f (eV 12 17 qF (bA c (fun _ _ c=>tN (cD (cK (cQ (cR 11 [] mixed c ai ?_)))))));exact eV 0 23 (pB p) (eO 1 24 [(1,0,3)] (iv a.num) c (eO 2 25 [(0,0,5)] (qv b) c (eV 5 28 (pB l) (eO 6 29 [(0,0,3)] (iv b.num) c (eO 7 30 [(1,0,5)] (qv a) c (af 3 26 c (fun _ _ c=>eA b aM _ _ c.g) (fun _ _ c=>af 4 27 c (fun _ _ c=>gA a.num b.den ce _ _ c.g) (fun _ _ c=>af 8 31 c (fun _ _ c=>eA a aM _ _ c.g) (fun _ _ c=>af 9 32 c (fun _ _ c=>gA b.num a.den ce _ _ c.g) (fun _ _ c=>af 10 33 c (fun _ _ c=>vV (a.num*(b.den:Int)) (b.num*(a.den:Int)) ce ce _ _ c.g) (fun _ _ c=>bA c (fun _ _ c=>tV 11 4 (iV (d4 (a.num*(b.den:Int)) (b.num*(a.den:Int)))) (tN (kX (c.ret [] (iV (d4 (a.num*(b.den:Int)) (b.num*(a.den:Int)))) (congrArg (Value.int .i64) (by first|rfl|exact fb e d|exact fL ‹_›)))))))))))))))))
 have y:=aU f;exact eB 11 16 f (eV 12 17 qT (bA c (fun _ _ c=>tN (bZ (ab c [.v (pB p),.o (iv a.num) 1 0 3,.v (pB l),.o (iv b.num) 0 0 3] (au 22 c (vV a.num b.num ce ce _ _ c.g) (fun _ _ c=>lL c ae (ah c [] (iV (d4 a.num b.num)) (congrArg (Value.int .i64) (by first|rfl|exact fb e d|exact fL ‹_›))))))))))
theorem iF (a b:Rat)(ha:LQ 100000000 a)(c:LQ 100000000 b)(w:World)(h:Hp)(g:G w h):CV 13 #[qv a,qv b] w h (iV (dJ a b)):=by
 by_cases h1:a.den=1
 ·by_cases h2:b.den=1
  ·exact Ej a b ha c h1 h2 w h g
  ·exact DQ a b ha c h1 h2 w h g
 ·exact Db a b ha c h1 w h g
theorem jU {a b:Rat}:dJ a b<0↔a<b:=by
 unfold dJ d4
 rw[Rat.lt_iff]
 split
 ·simp;assumption
 ·split<;>simp<;>omega
theorem jV {a b:Rat}:dJ a b>0↔b<a:=by
 unfold dJ d4
 rw[Rat.lt_iff]
 split
 ·simp;omega
 ·split<;>simp<;>omega
def mkR (n d:Int):Rat:=mkRat (if d<0 then -n else n) (ac d)
theorem CU (n d:Int)(i:d<0)(b:(wds (ac n)).length<=1000000000)(z:(wds (ac d)).length<=1000000000)(w:World)(h:Hp)(g:G w h)(u:Tab h):CV 42 #[iv n,iv d] w h (.tuple #[qv (mkR n d),.bool true]):=by
 have a:=((sS g).add (K:=fun y=>Tab y) u);have x:=Iz i;have l:0<ac d:=by unfold ac;omega
 have C:(wds (ac (-n))).length<=1000000000:=by unfold ac;rw[Jb];exact b
 refine go Tryz.func42 [(0,iv n),(1,iv d)] rfl (aD (lA 2 27 (ic n) a (fun O w2 L a=>lA 3 27 (ic d) a (fun H I D a=>lA 4 29 ca a (fun M J F a=>lL a ae (ag (ab a [.o (iv d) 1 0 3] (au 7 a (k9 d ce _ _ a.g) (fun _ _ a=>?_)))))))));have j:(((d).sign:Int) == (0:Int))=false:=fY oM;have e:=aq j;refine lB 8 j (am (cK (cQ (ab a [.o (iv d) 1 0 3] (au 11 a (k9 d ce _ _ a.g) (fun _ _ a=>?_))))));have ⟨B,c⟩:=dT (p:=((d).sign:Int)<(0:Int)) oM;refine lB 12 B (ar (kQ (lL a [.o (iv n) 2 0 3] (au 14 a (F0 n ce _ _ a.g) (fun _ _ a=>lP 2 0 (ic (-n)) a (fun _ a=>ag (cR 4 [] mixed a ai ?_)))))));exact eO 0 15 [(2,0,3)] (iv (-n)) a (eO 1 16 [(1,0,3)] (iv d) a (af 2 17 a (fun _ _ a=>vu d _ _ a.g) (fun _ _ a=>af 3 18 a (fun _ _ a=>rP (-n) (ac d) ce ce ce _ _ a.g a.f.1) (fun _ _ a=>bA a (fun _ _ a=>tP 4 0 0 (qc (mkRat (-n) (ac d))) a (fun _ a=>tV 5 5 qT (tN (kX (a.ret [(0,0,5)] (.tuple #[qv (mkRat (-n) (ac d)),qT]) (by unfold mkR;rw[if_pos i]))))))))))
theorem C2 (n d:Int)(B:0<d)(z:(wds (ac n)).length<=1000000000)(x:(wds (ac d)).length<=1000000000)(w:World)(h:Hp)(g:G w h)(j:Tab h):CV 42 #[iv n,iv d] w h (.tuple #[qv (mkR n d),.bool true]):=by
 have a:=((sS g).add (K:=fun u=>Tab u) j);have l:=IA B;have i:0<ac d:=by unfold ac;omega
 refine go Tryz.func42 [(0,iv n),(1,iv d)] rfl (aD (lA 2 27 (ic n) a (fun M w2 J a=>lA 3 27 (ic d) a (fun F H C a=>lA 4 29 ca a (fun L I D a=>lL a ae (ag (ab a [.o (iv d) 1 0 3] (au 7 a (k9 d ce _ _ a.g) (fun _ _ a=>?_)))))))));have e:(((d).sign:Int) == (0:Int))=false:=fY oM;have c:=aq e;refine lB 8 e (am (cK (cQ (ab a [.o (iv d) 1 0 3] (au 11 a (k9 d ce _ _ a.g) (fun _ _ a=>?_))))));have ⟨y,b⟩:=dF (p:=((d).sign:Int)<(0:Int)) oM;refine lB 12 y (am (cK (cQ (cR 4 [] mixed a ai ?_))));exact eO 0 15 [(2,0,3)] (iv n) a (eO 1 16 [(1,0,3)] (iv d) a (af 2 17 a (fun _ _ a=>vu d _ _ a.g) (fun _ _ a=>af 3 18 a (fun _ _ a=>rP n (ac d) ce ce ce _ _ a.g a.f.1) (fun _ _ a=>bA a (fun _ _ a=>tP 4 0 0 (qc (mkRat n (ac d))) a (fun _ a=>tV 5 5 qT (tN (kX (a.ret [(0,0,5)] (.tuple #[qv (mkRat n (ac d)),qT]) (by unfold mkR;rw[if_neg oM]))))))))))
theorem Fn (n d:Int)(e:d≠0)(b:(wds (ac n)).length<=1000000000)(a:(wds (ac d)).length<=1000000000)(w:World)(h:Hp)(g:G w h)(c:Tab h):CV 42 #[iv n,iv d] w h (.tuple #[qv (mkR n d),.bool true]):=by
 rcases IS d 0 with h1|h1|h1
 ·exact CU n d h1 b a w h g c
 ·exact absurd h1 e
 ·exact C2 n d h1 b a w h g c
theorem Cw (a b:Rat)(ha:LQ 100000000 a)(H:LQ 100000000 b)(hz:b.num≠0)(w:World)(h:Hp)(g:G w h)(C:Tab h):CV 257 #[qv a,qv b] w h (.tuple #[qv (a/b),.bool true]):=by
 have c:=((sS g).add (K:=fun D=>Tab D) C);have z:=ha;have x:=H;obtain ⟨I,J⟩:=z;obtain ⟨p,u⟩:=x;have l:((b.num).sign == (0:Int))=false:=by simpa using hz
 obtain ⟨i,d⟩:=qW b hz;have j:(wds (ac (ck (decide ((b.num).sign<(0:Int))) b.den))).length<=100000000:=by rw[ei];exact u
 have y:LQ 100000000 b⁻¹:=⟨by rw[i];exact j,by rw[d];exact p⟩;have B:LQ 1000000000 b⁻¹:=y.mono oM;refine go Tryz.func257 [(0,qv a),(1,qv b)] rfl (aD (lA 2 29 (qc a) c (fun V w2 S c=>lA 3 29 (qc b) c (fun F O L c=>lA 4 29 ca c (fun U Q M c=>lL c ae (ag (ab c [.o (qv b) 1 0 5] (au 7 c (gj b aM _ _ c.g) (fun _ _ c=>lV 8 qF ?_ (hr:=rb (e:=((b.num).sign == (0:Int))) kR l))))))))));refine am (cK (cQ (cR 12 [] mixed c ai ?_)));exact eO 0 10 [(2,0,5)] (qv a) c (eO 1 11 [(1,0,5)] (qv b) c (eO 4 14 [(1,0,5)] (qv b) c (eV 7 17 (pB F) (eO 8 18 [(1,0,3)] (iv b.num) c (af 2 12 c (fun _ _ c=>gj b aM _ _ c.g) (fun _ _ c=>eV 3 13 (.bool (decide (((b.num).sign:Int)<(0:Int)))) (af 5 15 c (fun _ _ c=>eA b aM _ _ c.g) (fun _ _ c=>af 6 16 c (fun _ _ c=>fc (decide (((b.num).sign:Int)<(0:Int))) b.den ce _ _ c.g) (fun _ _ c=>af 9 19 c (fun _ _ c=>vu b.num _ _ c.g) (fun _ _ c=>af 10 20 c (fun _ _ c=>jp b⁻¹ (ck (decide (((b.num).sign:Int)<(0:Int))) b.den) (ac b.num) i d.symm aM _ _ c.g) (fun _ _ c=>af 11 21 c (fun _ _ c=>dm a (b⁻¹) aM aM _ _ c.g c.f.1) (fun _ _ c=>bA c (fun _ _ c=>tP 12 0 0 (qc (a*(b⁻¹))) c (fun _ c=>tV 13 5 qT (tN (kX (c.ret [(0,0,5)] (.tuple #[qv (a*(b⁻¹)),qT]) (by rw[Rat.div_def]))))))))))))))))))
theorem tm (n d:Int)(f:d≠0):(mkR n d).num=ck (ax n != ax d) (ac n/ID (ac n) (ac d))/\(mkR n d).den=ac d/ID (ac n) (ac d)/\0<ID (ac n) (ac d):=by
  have c:0<ac d:=by unfold ac;omega
  have hz:ac (if d<0 then -n else n)=ac n:=by unfold ac;split<;>omega
  obtain ⟨h1,j,i,l⟩:=gt (if d<0 then -n else n) (ac d) c;rw[hz] at h1 j i l
  refine ⟨?_,j,l⟩;have h:=pf _ _ i;rw[hz] at h
  show (mkRat _ _).num=_
  rw[h1,<-h]
  by_cases hn:n=0
  . have hk:ac n/ID (ac n) (ac d)=0:=by rw[hn];exact Nat.zero_div _
    rw[hk]
    unfold ck
    simp
  . have e:decide ((if d<0 then -n else n).sign<0)=(ax n != ax d):=by
      unfold ax
      rcases IS n 0 with a|a|a
      . rcases IS d 0 with b|b|b
        . rw[if_pos b,IA oM];simp[a,b]
        . exact absurd b f
        . rw[if_neg oM,Iz a];simp[a,show ¬d<0 by omega]
      . exact absurd a hn
      . rcases IS d 0 with b|b|b
        . rw[if_pos b,Iz oM];simp[show ¬n<0 by omega,b]
        . exact absurd b f
        . rw[if_neg oM,IA a];simp[show ¬n<0 by omega,show ¬d<0 by omega]
    rw[e]
theorem tg {z:Int}(h0 : -9223372036854775808<=z)(h1:z<9223372036854775808):(lim (ac z)).length<=2:=f4 (by unfold ac;omega)
theorem HN (z:Int)(h0 : -9223372036854775808<=z)(h1:z<9223372036854775808)(w:World)(h:Hp)(g:G w h):CR 19 #[iV z] w h (fun v h1=>RQ h1 v (z:Rat)):=by
 have a:=sS g;refine go Tryz.func19 [(0,iV z)] rfl (aD (lA 2 39 ek a (fun y w2 x a=>aK (lL a ae (lC 4 a (pO z oM oM _ _ a.g) ?_)))));rintro _ u p a ⟨b,c,rfl,i,e⟩;replace a:=a.aS e;refine lC 5 a (m7 1 oM _ _ a.g) ?_;rintro _ _ _ a ⟨j,d,rfl,l,o⟩;replace a:=a.aS o;exact lL a [.v (.agg #[.bool (ax z),qS b ((lim (ac z)).length) c,qS j ((lim 1).length) d])] (lP 0 0 ([.bool (ax z),qS b ((lim (ac z)).length) c,qS j ((lim 1).length) d]) a (fun _ a=>ah a [(0,0,3)] (.agg #[.bool (ax z),qS b ((lim (ac z)).length) c,qS j ((lim 1).length) d]) (by unfold RQ;rw[I5,I6];exact ⟨_,_,_,_,rfl,i,l,a.f.2.1,a.f.1⟩)))
theorem EA {P:Program}{Γ:bW}{o:Oper}{t u:TypeId}{x y:Operand}{k ky:IntKind}{a n:Nat}(d:o.op=.binOp .shr t x y u)(b:ev Γ x=.int k (a:Int))(c:ev Γ y=.int ky (n:Int))(e:n<=k.bits)(w:World) :
  (execOp (ev Γ) o).run P w=.ok (.value (.int k ((a/2^n:Nat):Int))) w:=by
 have:=FW (P:=P) d b c e w;rw[show ((a:Int)/2^n)=((a/2^n:Nat):Int) by simp] at this
 exact this
theorem vS {P:Program}{Γ:bW}{o:Oper}{t u:TypeId}{x y:Operand}{ky:IntKind}{a n:Nat}(d:o.op=.binOp .shl t x y u)(b:ev Γ x=.int .u32 (a:Int))(c:ev Γ y=.int ky (n:Int))(e:n<=32)(hf:a*2^n<4294967296)(w:World) :
  (execOp (ev Γ) o).run P w=.ok (.value (.int .u32 ((a*2^n:Nat):Int))) w:=by
 have:=Fg (P:=P) d b c e w;rw[show ((a:Int)*2^n)=((a*2^n:Nat):Int) by simp,EO hf] at this
 exact this
theorem tc (a:Nat)(A:Z9)(c:Nat)(hc:(lim a).length<=c)(D:(lim a).length<=4000000000)(w:World)(h:Hp)(g:G w h)(V:S3 A (lim a) h):CR 83 #[.slice A ((lim a).length) c] w h (fun v h1=>∃ A,v=.slice A ((nb a+7)/8) ((nb a+7)/8)/\SlO 1 lm 0 h1 A (e9 a ((nb a+7)/8))):=by
 have e:=((sS g).aS V);have hna:=pH a;refine go Tryz.func83 [(0,qS A ((lim a).length) c)] rfl (ab e ae (aK (lL e ae (au 7 e (wj a A c hc D _ _ e.g e.f.1) (fun w1 h2 e=>bB 8 ((nb a:Nat)+7) ((nb a)+7) (lV 9 (nV (((nb a)+7)/8)) ?_ (hr:=ay (dl (t:=3) (u:=3) (x:=.tmp 8) (y:=.const (iV 8)) (k:=.i64) (a:=(((nb a)+7:Nat):Int)) (b:=(8:Int)) kR kR kR oM _) (db ((nb a)+7) 8 oM))))))));refine lL e ae (aK (lL e ae (lK 11 5 (((nb a)+7)/8:Nat) 1 1 (.int .u8 0) lm 0 e (fun p w4 Z e=>?_))));have H:(yL (((nb a)+7)/8:Nat) 0).length=(((nb a)+7)/8:Nat):=by simp
 refine lL e ae (ag (ab e ae (a7 ?_)));refine bY _ (CG.loop (fun I Γ U=>∃ (i:Nat)(l:List Nat)(h_:Hp),I=((nb a+7)/8)-i/\Γ=[(0,qS A ((lim a).length) c),(2,sZ),(3,nV (((nb a)+7)/8)),(4,qS (sB p) (((nb a)+7)/8:Nat) (((nb a)+7)/8:Nat)),(5,nV i)]/\SS w h U h_ [⟨p,5,(l).flatMap lm⟩] [] [S3 A (lim a)]/\i<=((nb a+7)/8)/\l.length=((nb a+7)/8)/\(∀ j,j<i->l.getD (((nb a+7)/8)-1-j) 0=a/256^j%256)) _ ⟨0,yL (((nb a)+7)/8:Nat) 0,Z,rfl,rfl,e.to _ _,In _,H,(fun j K=>absurd K oM)⟩ ?_);rintro _ _ w7 ⟨i,l,O,W,rfl,e,hi,z,M⟩;have X:=(Ld.lim a).get (i/4);refine cQ (ab e aE ?_);cases C:(decide ((i:Int)<((((nb a)+7)/8:Nat):Int)))
 .
  have Y:=oF C;refine lB 14 C (am (CG.exit ?_))
  show CG _ _ _ _ _ _ _ _
  refine ab e aE (lN (kX ?_));have him:i=((nb a+7)/8):=by omega
  have F:l=e9 a ((nb a+7)/8):=pV z (fun j K=>M j oM);rw[F] at e
  obtain ⟨_,e,B,J,L⟩:=e.pub 0;replace e:=(e.to [] []).aS (SlO.of_flat (sz:=1) (f:=lm) (d:=0) (b:=p) (o:=0) (l:=e9 a ((nb a+7)/8)) (fun _=>rfl) B);exact e.ret [] (qS (sB p) (((nb a)+7)/8:Nat) (((nb a)+7)/8:Nat)) (⟨sB p,rfl,e.f.1⟩)
 have Y:=oT C;refine lB 14 C (ar (cK (cQ (kZ (kQ (lL e aE (bB 19 ((((nb a)+7)/8:Nat)-1) ((((nb a)+7)/8:Nat)-1) ?_)))))));refine lL e ae (bB 21 (((((nb a)+7)/8:Nat)-1:Nat)-(i:Nat)) (((((nb a)+7)/8:Nat)-1:Nat)-i) ?_);refine lL e aE (lV 24 (nV (i/4)) ?_ (hr:=ay (dl (t:=3) (u:=3) (x:=.tmp 23) (y:=.const (iV 4)) (k:=.i64) (a:=(i:Int)) (b:=(4:Int)) kR kR kR oM _) (db i 4 oM)));refine lX 25 A ((lim a).length) c 1 (i/4:Nat) (i/4) ((e.f.1).ok oM) (lH 26 (mW ((lim a).getD (i/4) 0)) e ((e.f.1).el (i/4) oM) (lL e ae (lV 28 (nV (i%4)) ?_ (hr:=ay (fC (t:=3) (u:=3) (x:=.tmp 27) (y:=.const (iV 4)) (k:=.i64) (a:=(i:Int)) (b:=(4:Int)) kR kR kR oM _) (dg i 4)))));refine bB 29 (8*(i%4:Nat)) (8*(i%4)) (lV 30 (mV (8*(i%4))) ?_ (hr:=rU (((8*(i%4):Nat):Int)) kR (bF oM oM)));refine lV 31 (mW ((lim a).getD (i/4) 0/2^(8*(i%4)))) ?_ (hr:=EA (t:=156) (u:=157) (x:=.tmp 26) (y:=.tmp 30) (k:=.u32) (ky:=.u64) (a:=(lim a).getD (i/4) 0) (n:=8*(i%4)) kR kR kR (show 8*(i%4)<=32 by omega) _);refine lV 32 (.int .u8 ((lim a).getD (i/4) 0/2^(8*(i%4))%256:Nat)) ?_ (hr:=ay (n:=IntKind.wrap .u8 (((lim a).getD (i/4) 0/2^(8*(i%4)):Nat):Int)) kR (xG _));refine lX 33 (sB p) (((nb a)+7)/8:Nat) (((nb a)+7)/8:Nat) 1 (((((nb a)+7)/8:Nat)-1:Nat)-i:Nat) (((((nb a)+7)/8:Nat)-1:Nat)-i:Nat) rfl (lW 0 l lm 1 (((((nb a)+7)/8:Nat)-1:Nat)-i:Nat) ((lim a).getD (i/4) 0/2^(8*(i%4))%256:Nat) e oM (fun _ e=>?_));have S:((l).set (((((nb a)+7)/8:Nat)-1:Nat)-i:Nat) ((lim a).getD (i/4) 0/2^(8*(i%4))%256:Nat)).length=(((nb a)+7)/8:Nat):=by rw[Ic];exact z
 replace e:=e.to [⟨p,5,((l).set (((((nb a)+7)/8:Nat)-1:Nat)-i:Nat) ((lim a).getD (i/4) 0/2^(8*(i%4))%256:Nat)).flatMap lm⟩] [];refine lN (kQ (lL e ae (bB 16 ((i:Nat)+1) (i+1) ?_)));refine lL e ae (lD ?_);intro a_ Q;refine ⟨_,_,?_,⟨i+1,(l).set (((((nb a)+7)/8:Nat)-1:Nat)-i:Nat) ((lim a).getD (i/4) 0/2^(8*(i%4))%256:Nat),O,rfl,rfl,e.to _ _,oM,S,(fT z oM M (xj a i))⟩,Q.to _ kR⟩
 omega
theorem tE {n m:Nat}(h:n<256^m):∀ j,j<(m+3)/4->(yL ((m+3)/4) 0).getD j 0=eL n (m-0) j:=fun j a=>by
 rw[Nat.sub_zero,uM h];simp[a]
theorem tF {l:List Nat}{n m i x:Nat}(hi:i<m)(c:l.length=(m+3)/4)(hv:∀ j,j<(m+3)/4->l.getD j 0=eL n (m-i) j)(a:x=eL n (m-1-i) ((m-1-i)/4)) :
  ∀ j,j<(m+3)/4->(l.set ((m-1-i)/4) x).getD j 0=eL n (m-(i+1)) j:=by
 intro j b;rw[show m-(i+1)=m-1-i by omega]
 by_cases e:j=(m-1-i)/4
 ·subst e
  have:(m-1-i)/4<l.length:=by omega
  simp[this,a]
 ·rw[mq,if_neg e,show m-1-i+1=m-i by omega,<-hv j b]
  simp only[List.getD_eq_getElem?_getD]
  rw[List.getElem?_set_ne (Ne.symm e)]
theorem rX {n k:Nat}:eL n (k+1) (k/4) ||| (n/256^k%256)*2^(8*(k%4))=eL n k (k/4):=by rw[mq n k (k/4),if_pos rfl]
theorem l7 {b k:Nat}(a:b<256):b*2^(8*(k%4))<4294967296:=by
 have:k%4=0\/k%4=1\/k%4=2\/k%4=3:=by omega
 rcases this with e|e|e|e<;>rw[e]<;>omega
theorem uE {l:List Nat}{n m:Nat}(d:n<256^m)(c:l.length=(m+3)/4)(hv:∀ j,j<(m+3)/4->l.getD j 0=eL n (m-m) j):ak 4294967296 l=n/\Ld l:=by
 constructor
 ·rw[<-ju]
  refine gJ l n (fun j a=>by rw[hv j oM,Nat.sub_self,sV]) ?_;refine e5 d ?_;rw[c,show (256:Nat)=2^8 by rfl,show (4294967296:Nat)=2^32 by rfl,<-A7,<-A7];exact Ay oM oM
 ·intro x b
  obtain ⟨j,a,rfl⟩:=List.mem_iff_getElem.1 b;have:=hv j oM;have e:l[j]=l.getD j 0:=by simp[a]
  rw[e,this];exact nP _ _ _
theorem tU (n m:Nat)(A:Z9)(p:Nat)(hc:m<=p)(hm:m<=1099511627776)(W:n<256^m)(w:World)(h:Hp)(g:G w h)(hA:SlO 1 lm 0 h A (e9 n m)):CR 156 #[.slice A m p] w h (fun v h1=>RN h1 v n):=by
 have e:=((sS g).aS hA);have hbl:=i4 n m;refine go Tryz.func156 [(0,qS A m p)] rfl (ab e ae (aK (lL e [.c,.v (nV m)] (bB 8 ((m:Nat)+3) (m+3) ?_))));refine lV 9 (nV ((m+3)/4)) ?_ (hr:=ay (dl (t:=3) (u:=3) (x:=.tmp 8) (y:=.const (iV 4)) (k:=.i64) (a:=((m+3:Nat):Int)) (b:=(4:Int)) kR kR kR oM _) (db (m+3) 4 oM));refine lK 10 156 ((m+3)/4) 1 4 (uW 0) ft 0 e (fun C w2 h3 e=>?_);have O:(yL ((m+3)/4) 0).length=((m+3)/4):=by simp
 refine lL e ae (ag (ab e ae (a7 ?_)));refine bY _ (CG.loop (fun M Γ Z=>∃ (i:Nat)(l:List Nat)(K:Hp),M=m-i/\Γ=[(0,qS A m p),(2,sZ),(3,qS (sB C) ((m+3)/4) ((m+3)/4)),(4,nV i)]/\SS w h Z K [⟨C,156,(l).flatMap ft⟩] [] [fun K=>SlO 1 lm 0 K A (e9 n m)]/\i<=m/\l.length=(m+3)/4/\(∀ j,j<(m+3)/4->l.getD j 0=eL n (m-i) j)) _ ⟨0,yL ((m+3)/4) 0,h3,rfl,rfl,e.to _ _,In _,O,(tE W)⟩ ?_);rintro _ _ w5 ⟨i,l,h6,X,rfl,e,hi,B,hv⟩;refine cQ (ab e [.c,.c,.v (nV m)] ?_);cases D:(decide ((i:Int)<(m:Int)))
 .
  have F:=oF D;refine lB 14 D (am (CG.exit ?_))
  show CG _ _ _ _ _ _ _ _
  refine ab e ae ?_;have S:i=m:=by omega
  rw[S] at hv
  obtain ⟨Q,L⟩:=uE W B hv;obtain ⟨h9,e,I,V,U⟩:=e.pub 0;replace e:=(e.to [] []).aS (SlO.of_flat (sz:=1) (f:=ft) (d:=0) (b:=C) (o:=0) (l:=l) (fun _=>rfl) I);exact au 43 e (vK (sB C) ((m+3)/4) l ((m+3)/4) B oM oM _ _ e.g e.f.1) (fun _ _ e=>lL e ae (ah e [] (qS (sB C) (tl l ((m+3)/4)) ((m+3)/4)) (RN.trim L Q B oM e.f.1)))
 have F:=oT D;refine lB 14 D (ar (cK (cQ (kZ (ab e [.c,.v (nV m)] (bB 19 ((m:Nat)-1) (m-1) ?_))))));refine lL e ae (bB 21 ((m-1:Nat)-(i:Nat)) ((m-1)-i) ?_);refine lL e ae (lN (cR 19 [] mixed e ai ?_));refine eV 0 22 (qS (sB C) ((m+3)/4) ((m+3)/4)) (eV 1 23 (nV ((m-1)-i)) (eV 2 24 (nV (((m-1)-i)/4)) ?_ (hv:=fun _=>ay (dl (t:=3) (u:=3) (x:=.tmp 23) (y:=.const (iV 4)) (k:=.i64) (a:=(((m-1)-i:Nat):Int)) (b:=(4:Int)) kR kR kR oM _) (db ((m-1)-i) 4 oM))));refine eV 3 25 (qS (sB C) ((m+3)/4) ((m+3)/4)) (eV 4 26 (nV ((m-1)-i)) (eV 5 27 (nV (((m-1)-i)/4)) ?_ (hv:=fun _=>ay (dl (t:=3) (u:=3) (x:=.tmp 26) (y:=.const (iV 4)) (k:=.i64) (a:=(((m-1)-i:Nat):Int)) (b:=(4:Int)) kR kR kR oM _) (db ((m-1)-i) 4 oM))));refine eX 6 28 (sB C) ((m+3)/4) ((m+3)/4) 1 (((m-1)-i)/4:Nat) (((m-1)-i)/4:Nat) rfl (eQ 7 29 0 l ft 1 0 (((m-1)-i)/4:Nat) (mW ((l).getD (((m-1)-i)/4:Nat) 0)) e oM (eV 8 30 (qS A m p) (eV 9 31 (nV i) (eX 10 32 A m p 1 (i:Nat) i ((e.f.1).ok oM) ?_))));have z:=hv ((m-1-i)/4) oM;have H:l.getD ((m-1-i)/4) 0 ||| (n/256^(m-1-i)%256)*2^(8*((m-1-i)%4))=eL n (m-1-i) ((m-1-i)/4):=by rw[z,show m-i=m-1-i+1 by omega];exact rX
 have J:l.getD ((m-1-i)/4) 0<4294967296:=by rw[z];exact nP _ _ _
 have z:=hv ((m-1-i)/4) oM;have H:l.getD ((m-1-i)/4) 0 ||| (n/256^(m-1-i)%256)*2^(8*((m-1-i)%4))=eL n (m-1-i) ((m-1-i)/4):=by rw[z,show m-i=m-1-i+1 by omega];exact rX
 have J:l.getD ((m-1-i)/4) 0<4294967296:=by rw[z];exact nP _ _ _
 refine HJ 11 33 (.int .u8 ((e9 n m).getD i 0:Nat)) e ((e.f.1).el i oM) (by rw[gQ n m _ oM]) (eV 12 34 (mW (n/256^(m-1-i)%256)) ?_ (hv:=fun _=>rT (((n/256^(m-1-i)%256:Nat):Int)) kR (qo oM oM)));refine eV 13 35 (nV ((m-1)-i)) (eV 14 36 (nV (((m-1)-i)%4)) ?_ (hv:=fun _=>ay (fC (t:=3) (u:=3) (x:=.tmp 35) (y:=.const (iV 4)) (k:=.i64) (a:=(((m-1)-i:Nat):Int)) (b:=(4:Int)) kR kR kR oM _) (dg ((m-1)-i) 4)));refine lr 15 37 (8*(((m-1)-i)%4:Nat)) (8*(((m-1)-i)%4:Nat)) (eV 16 38 (mV (8*(((m-1)-i)%4:Nat))) ?_ (hv:=fun _=>rU (((8*(((m-1)-i)%4:Nat):Nat):Int)) kR (bF oM oM)));refine eV 17 39 (mW ((n/256^(m-1-i)%256)*2^(8*((m-1-i)%4)))) ?_ (hv:=fun _=>vS (t:=156) (u:=157) (x:=.tmp 34) (y:=.tmp 38) (ky:=.u64) (a:=n/256^(m-1-i)%256) (n:=8*((m-1-i)%4)) kR kR kR oM (l7 oM) _);refine eV 18 40 (mW (eL n (m-1-i) ((m-1-i)/4))) ?_ (hv:=fun _=>ay (Dl (t:=156) (u:=156) (x:=.tmp 29) (y:=.tmp 39) (a:=l.getD ((m-1-i)/4) 0) (b:=(n/256^(m-1-i)%256)*2^(8*((m-1-i)%4))) kR kR kR J (l7 oM) _) (congrArg Int.ofNat H));refine bA e (fun _ zb e=>tX 19 41 (sB C) ((m+3)/4) ((m+3)/4) 1 (((m-1)-i)/4:Nat) (((m-1)-i)/4:Nat) rfl (tW 20 0 l ft 1 (((m-1)-i)/4:Nat) (eL n (m-1-i) ((m-1-i)/4):Nat) e oM (fun _ e=>?_)));have za:((l).set (((m-1)-i)/4:Nat) (eL n (m-1-i) ((m-1-i)/4):Nat)).length=((m+3)/4):=by rw[Ic];exact B
 replace e:=e.to [⟨C,156,((l).set (((m-1)-i)/4:Nat) (eL n (m-1-i) ((m-1-i)/4):Nat)).flatMap ft⟩] [];refine tN (kQ (lL e ae (bB 16 ((i:Nat)+1) (i+1) ?_)));refine lL e ae (lD ?_);intro a_ Y;refine ⟨_,_,?_,⟨i+1,(l).set (((m-1)-i)/4:Nat) (eL n (m-1-i) ((m-1-i)/4):Nat),zb,rfl,rfl,e.to _ _,oM,za,(tF oM B hv rfl)⟩,Y.to _ kR⟩
 omega
def cv (q:Rat):Rat:=if q.num<0 then -q else q
theorem wZ (q:Rat):(cv q).num=((ac q.num:Nat):Int):=by
 unfold cv ac;split
 ·rw[I7];omega
 ·omega
theorem wV (q:Rat):(cv q).den=q.den:=by
 unfold cv;split
 ·rw[I8]
 ·rfl
theorem LQ.ln {q:Rat}(h:LQ 100000000 q):(lim (ac q.num)).length<=300000000:=e4 (sq _) (by have:=h.1;omega)
theorem LQ.ld {q:Rat}(h:LQ 100000000 q):(lim q.den).length<=300000000:=e4 (sq _) (by have:=h.2;omega)
theorem nl {k:Nat}{q:Rat}(h:LQ k q)(hk:k<=100000000:=by omega):(lim (ac q.num)).length<=300000000:=LQ.ln (h.mono hk)
theorem nD {k:Nat}{q:Rat}(h:LQ k q)(hk:k<=100000000:=by omega):(lim q.den).length<=300000000:=LQ.ld (h.mono hk)
theorem LQ.abs {k:Nat}{q:Rat}(h:LQ k q):LQ k (cv q):=⟨by rw[wZ];exact h.1,by rw[wV];exact h.2⟩
theorem LQ.sub {k l:Nat}{a b:Rat}(ha:LQ k a)(c:LQ l b):LQ (k+l+1) (a-b):=by rw[Jc];exact ha.add c.neg
theorem LQ.inv {k:Nat}{q:Rat}(h:LQ k q):LQ k q⁻¹:=by
 by_cases hz:q.num=0
 ·have:q=0:=by rw[<-Rat.num_eq_zero];exact hz
  subst this;rw[Rat.inv_zero];exact h
 ·obtain ⟨h1,a⟩:=qW q hz
  exact ⟨by rw[h1,ei];exact h.2,by rw[a];exact h.1⟩
theorem LQ.div {k l:Nat}{a b:Rat}(ha:LQ k a)(c:LQ l b):LQ (k+l) (a/b):=by rw[Rat.div_def];exact ha.mul c.inv
theorem LQ.int {z:Int}(h0 : -9223372036854775808<=z)(h1:z<=9223372036854775807):LQ 1 (z:Rat):=⟨by rw[I5];exact co.2 (by unfold ac;omega),by rw[I6];exact co.2 oM⟩
theorem LQ.lit {z:Int}(h : -9223372036854775808<=z/\z<=9223372036854775807):LQ 1 (z:Rat):=LQ.int h.1 h.2
def bJ (a b:List Rat):Nat->Rat
  | 0=>0
  | k+1=>bJ a b k+a.getD k 0*b.getD k 0
theorem LQ.dot {a b:List Rat}{k l n:Nat}(ha:∀ i,i<n->LQ k (a.getD i 0))(c:∀ i,i<n->LQ l (b.getD i 0)):∀ i,i<=n->LQ (i*(k+l+1)+1) (bJ a b i)
  | 0,_=>by rw[Nat.zero_mul];exact LQ.lit (z:=0) kD
  | i+1,h=>by
    have h1:=(LQ.dot ha c i oM).add ((ha i oM).mul (c i oM));refine LQ.mono h1 ?_;rw[Nat.succ_mul];omega
theorem lh (a:Nat)(A:Z9)(c:Nat)(o:(lim a).length<=c)(b:Nat)(D:Z9)(d:Nat)(l:(lim b).length<=d)(e:(lim a).length<=3000000000)(u:(lim b).length<=1)(x:0<b)(w:World)(h:Hp)(g:G w h)(f:S3 A (lim a) h)(j:S3 D (lim b) h):CR 124 #[.slice A (lim a).length c,.slice D (lim b).length d] w h (fun v h1=>∃ i p,v=.tuple #[i,p]/\RN h1 i (a/b)/\RN h1 p (a%b)):=by
 have y:=dv.2 x
 rcases ep a b with h1|h1
 ·exact tJ a A c o b D d l e oM h1 w h g f j
 ·exact p9 a A c o b D d l e oM h1 oM w h g f j
theorem wA (a:Nat)(A:Z9)(c:Nat)(hc:(lim a).length<=c)(b:Nat)(D:Z9)(d:Nat)(hd:(lim b).length<=d)(z:(lim a).length<=3000000000)(F:(lim b).length<=1)(w:World)(h:Hp)(g:G w h)(U:S3 A (lim a) h)(Z:S3 D (lim b) h):CR 123 #[.slice A ((lim a).length) c,.slice D ((lim b).length) d] w h (fun v h1=>RN h1 v (ID a b)):=by
 have e:=(((sS g).aS U).aS Z);refine go Tryz.func123 [(0,qS A ((lim a).length) c),(1,qS D ((lim b).length) d)] rfl (ab e ae (ag (kZ ?_)));replace e:=e.aS e.f.1;replace e:=e.aS e.f.r.1;refine bY _ (CG.loop (fun H Γ S=>∃ (x:Nat)(j:Z9)(c1:Nat)(y:Nat)(o:Z9)(c2:Nat)(B:Hp),H=y/\Γ=[(4,sZ),(0,qS j ((lim x).length) c1),(1,qS o ((lim y).length) c2)]/\SS w h S B [] [] [S3 j (lim x),S3 o (lim y),S3 D (lim b),S3 A (lim a)]/\(lim x).length<=c1/\(lim y).length<=c2/\(lim x).length<=3000000000/\(lim y).length<=1/\ID x y=ID a b) _ ⟨a,A,c,b,D,d,h,rfl,rfl,e.to _ _,hc,hd,z,F,rfl⟩ ?_);rintro _ _ w1 ⟨x,j,c1,y,o,c2,h2,hm3,rfl,e,l,u,hl1,Y,J⟩;refine cQ (ab e [.c,.v (nV ((lim y).length))] ?_);cases i:(decide ((0:Int)<(((lim y).length:Nat):Int)))
 .
  have p:=oF i;refine lB 9 i (am (CG.exit ?_))
  show CG _ _ _ _ _ _ _ _
  refine ab e aE (lN (kX ?_));have I:y=0:=Nat.eq_zero_of_not_pos (fun B=>by have:=dv.2 B;omega);exact e.ret [] (qS j ((lim x).length) c1) (by rw[<-J,I,IN];exact ⟨j,c1,rfl,l,e.f.1⟩)
 have p:=oT i;refine lB 9 i (ar (cK (kZ (ab e aE (lC 13 e (lh x j c1 l y o c2 u oM oM (dv.1 oM) _ _ e.g e.f.1 e.f.2.1) ?_)))));rintro _ w5 M e ⟨_,_,rfl,⟨W,X,rfl,hcq,hq⟩,⟨L,K,rfl,C,hr⟩⟩;replace e:=e.aS hr;have Q:=yO x (dv.1 (show 0<(lim y).length by omega));have V:=fV (show x%y<=y by omega);refine lL e [.c,.v (qS W (lim (x/y)).length X),.v (qS L ((lim (x%y)).length) K),.c,.c] (aK (lL e aE (lN (kQ (lL e aE (lD ?_))))));intro a_ O;replace e:=((e.tl.tl.tl.aS e.f.1).aS e.f.r.1);refine ⟨_,_,?_,⟨y,o,c2,x%y,L,K,M,rfl,rfl,e.to _ _,u,C,oM,oM,(by rw[lu];exact J)⟩,O.to _ kR⟩
 omega
theorem td (a:Nat)(A:Z9)(c:Nat)(p:(lim a).length<=c)(b:Nat)(D:Z9)(d:Nat)(l:(lim b).length<=d)(q:Nat)(o:q=ID a b)(e:(lim a).length<=3000000000)(f:(lim b).length<=1)(w:World)(h:Hp)(g:G w h)(i:S3 A (lim a) h)(j:S3 D (lim b) h):CR 123 #[.slice A (lim a).length c,.slice D (lim b).length d] w h (fun v h1=>RN h1 v q):=by
 subst o;exact wA a A c p b D d l e f w h g i j
theorem pz {z:Int}(h0 : -4294967296<z)(h1:z<4294967296):(lim (ac z)).length<=1:=f4 (by unfold ac;omega)
theorem CA (x:Int)(A:Z9)(c:Nat)(Q:(lim (ac x)).length<=c)(U:(lim (ac x)).length<=2000000000)(y:Int)(D:Z9)(d:Nat)(M:(lim (ac y)).length<=d)(I:(lim (ac y)).length<=1)(z:y≠0)(w:World)(h:Hp)(g:G w h)(W:S3 A (lim (ac x)) h)(hD:S3 D (lim (ac y)) h):CR 84 #[.agg #[.bool (ax x),.slice A ((lim (ac x)).length) c],.agg #[.bool (ax y),.slice D ((lim (ac y)).length) d]] w h (fun v h1=>RQ h1 v (mkR x y)):=by
 have a:=(((sS g).aS W).aS hD);obtain ⟨j,l,i⟩:=tm x y z;obtain ⟨q,hq⟩:∃ q,q=ID (ac x) (ac y):=⟨_,rfl⟩;rw[<-hq] at j l i
 have hql:(lim q).length<=1:=pi (by rw[hq];exact I9 _ (by unfold ac;omega)) I;refine go Tryz.func84 [(0,.agg #[.bool (ax x),qS A ((lim (ac x)).length) c]),(1,.agg #[.bool (ax y),qS D ((lim (ac y)).length) d])] rfl (aD (lA 2 37 ([.bool (ax x),qS A ((lim (ac x)).length) c]) a (fun H w2 h3 a=>lA 3 37 ([.bool (ax y),qS D ((lim (ac y)).length) d]) a (fun F w5 h6 a=>lA 4 39 ek a (fun b7 w8 h9 a=>aK (lL a [.v (qP H 1),.o (qS A ((lim (ac x)).length) c) 2 1 1,.v (qP F 1),.o (qS D ((lim (ac y)).length) d) 1 1 1] (lC 14 a (td (ac x) A c Q (ac y) D d M q hq oM oM _ _ a.g a.f.2.1 a.f.1) ?_)))))));rintro _ _ _ a ⟨S,O,rfl,J,V⟩;replace a:=a.aS V;refine lL a ae (aK (lL a [.v (qP H 1),.o (qS A ((lim (ac x)).length) c) 2 1 1,.c] (lC 19 a (lh (ac x) A c Q q S O J oM oM i _ _ a.g a.f.r.1 a.f.1) ?_)));rintro _ _ _ a ⟨_,b,rfl,⟨L,K,rfl,Z,Y⟩,-⟩;replace a:=a.aS Y;refine lL a [.c,.v (qS L ((lim ((ac x)/q)).length) K),.v b,.c,.c] (aK (lL a [.v (qP F 1),.o (qS D ((lim (ac y)).length) d) 1 1 1,.c] (lC 26 a (lh (ac y) D d M q S O J oM oM i _ _ a.g a.f.r.1 a.f.2.1) ?_)));rintro _ _ _ a ⟨_,e,rfl,⟨u,p,rfl,zn,X⟩,-⟩;replace a:=a.aS X;refine lL a [.c,.v (qS u ((lim ((ac y)/q)).length) p),.v e,.c,.c] (aK (lL a [.v (pB H),.o (.bool (ax x)) 2 0 1,.v (pB F),.o (.bool (ax y)) 1 0 1,.v (.bool ((ax x) != (ax y))),.c] (lC 35 a (rI ((ax x) != (ax y)) ((ac x)/q) L K Z _ _ a.g a.f.2.1) ?_)));rintro _ _ _ a ⟨C,B,rfl,zp,zq⟩;replace a:=a.aS zq;exact lL a [.c,.v (.agg #[.bool (ax (ck ((ax x) != (ax y)) ((ac x)/q))),qS C ((lim (ac (ck ((ax x) != (ax y)) ((ac x)/q)))).length) B,qS u ((lim ((ac y)/q)).length) p])] (lP 0 0 ([.bool (ax (ck ((ax x) != (ax y)) ((ac x)/q))),qS C ((lim (ac (ck ((ax x) != (ax y)) ((ac x)/q)))).length) B,qS u ((lim ((ac y)/q)).length) p]) a (fun _ a=>ah a [(0,0,3)] (.agg #[.bool (ax (ck ((ax x) != (ax y)) ((ac x)/q))),qS C ((lim (ac (ck ((ax x) != (ax y)) ((ac x)/q)))).length) B,qS u ((lim ((ac y)/q)).length) p]) (by unfold RQ;rw[j,l];exact ⟨_,_,_,_,rfl,zp,zn,a.f.1,a.f.2.1⟩)))
theorem uS (x y:Int)(c:y≠0)(h0 : -9223372036854775808<=x)(h1:x<9223372036854775808)(z : -4294967296<y)(l:y<4294967296)(w:World)(h:Hp)(g:G w h):CR 51 #[iV x,iV y] w h (fun v h1=>RQ h1 v (mkR x y)):=by
 have a:=sS g;have M:=tg h0 h1;have C:=pz z l;refine go Tryz.func51 [(0,iV x),(1,iV y)] rfl (aD (lA 4 39 ek a (fun S w2 l a=>aK (lL a ae (lC 6 a (pO x oM oM _ _ a.g) ?_)))));rintro _ Q O a ⟨u,D,rfl,d,b⟩;replace a:=a.aS b;refine lL a ae (lC 8 a (pO y oM oM _ _ a.g) ?_);rintro _ _ _ a ⟨I,H,rfl,p,L⟩;replace a:=a.aS L;refine lC 9 a (CA x u D d oM y I H p oM c _ _ a.g a.f.2.1 a.f.1) ?_;rintro _ _ _ a ⟨o,j,e,i,rfl,K,J,F,B⟩;replace a:=a.aP F B;exact lP 0 0 (Cc (mkR x y) o j e i) a (fun _ a=>ah a [(0,0,3)] (rG (mkR x y) o j e i) (by skip;exact ⟨_,_,_,_,rfl,K,J,a.f.2.1,a.f.1⟩))
theorem Fh (a:Nat)(A:Z9)(c:Nat)(l:(lim a).length<=c)(z:(lim a).length<=300000000)(w:World)(h:Hp)(g:G w h)(i:S3 A (lim a) h):CV 44 #[.slice A ((lim a).length) c] w h (nv a):=by
 have b:=((sS g).aS i);have j:=pH a;refine go Tryz.func44 [(0,qS A ((lim a).length) c)] rfl (aD (lA 2 25 ([uV 0,eS]) b (fun B w2 y b=>aK (lL b ae (lC 4 b (tc a A c l oM _ _ b.g b.f.1) ?_)))));rintro _ p o b ⟨e,rfl,d⟩;replace b:=b.aS d;exact au 5 b (wS a ((nb a+7)/8) e ((nb a+7)/8) (nR _) oM (vQ a) _ _ b.g b.f.1) (fun x u b=>lP 0 0 (nc a) b (fun _ b=>ah b [(0,0,2)] (nv a) rfl))
theorem GX (z:Int)(A:Z9)(c:Nat)(e:(lim (ac z)).length<=c)(i:(lim (ac z)).length<=300000000)(w:World)(h:Hp)(g:G w h)(d:S3 A (lim (ac z)) h):CV 43 #[.agg #[.bool (ax z),.slice A ((lim (ac z)).length) c]] w h (iv z):=by
 have a:=((sS g).aS d);have j:=Bf (ac z);refine go Tryz.func43 [(0,.agg #[.bool (ax z),qS A ((lim (ac z)).length) c])] rfl (aD (lA 1 37 ([.bool (ax z),qS A ((lim (ac z)).length) c]) a (fun b w2 x a=>lA 2 27 ([qF,uV 0,eS]) a (fun p u o a=>ag (cR 6 [] mixed a ai ?_)))));exact eV 0 3 (pB b) (eO 1 4 [(1,0,1)] (.bool (ax z)) a (eV 2 5 (qP b 1) (eO 3 6 [(1,1,1)] (qS A ((lim (ac z)).length) c) a (af 4 7 a (fun _ _ a=>Fh (ac z) A c e (by first|exact i|exact LQ.ld hq|omega) _ _ a.g a.f.1) (fun y l a=>af 5 8 a (fun _ _ a=>fc (ax z) (ac z) oM _ _ a.g) (fun B _ a=>bA a (fun _ _ a=>tP 6 0 0 (ic (ck (ax z) (ac z))) a (fun _ a=>tN (kX (a.ret [(0,0,3)] (iv (ck (ax z) (ac z))) (congrArg iv (ku z))))))))))))
end Go.Proofs.YtcbgbcghmndlmaaGreatDoor
