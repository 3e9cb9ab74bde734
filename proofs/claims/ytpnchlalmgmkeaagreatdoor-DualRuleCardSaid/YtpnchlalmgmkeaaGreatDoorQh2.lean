/- Laws of this claim, part 3. -/
import Derived.Test.YtpnchlalmgmkeaaGreatDoorQh0
import Derived.Test.YtpnchlalmgmkeaaGreatDoorQh1
set_option maxRecDepth 100000
set_option maxHeartbeats 4000000
namespace Go.Proofs.YtpnchlalmgmkeaaGreatDoor
open Int renaming divExact_eq_ediv -> Kp, dvd_refl -> Kl, dvd_trans -> Ki, eq_ofNat_of_zero_le -> JS, lt_trichotomy -> Ke, mul_ediv_cancel_left -> Kd, mul_neg -> JT, mul_neg_of_neg_of_pos -> KA, mul_pos -> KB, natAbs_add_le -> Kx, natAbs_dvd -> Kk, natAbs_mul -> Kb, natAbs_natCast -> Kc, natAbs_neg -> Ky, natCast_dvd_natCast -> Kj, neg_mul -> JU, neg_neg -> JV, sign_eq_neg_one_of_neg -> JW, sign_eq_one_of_pos -> JX
open List renaming drop_eq_nil_of_le -> Jz, drop_zero -> yb, flatMap_cons -> x0, length -> J6, length_drop -> Am, length_set -> Gx, length_take -> yY, mem_cons -> g1, mem_cons_of_mem -> JR, mem_cons_self -> JQ, mem_singleton -> ov, replicate -> yp, set_set -> JN, take_length -> yd, take_of_length_le -> z8, take_set -> J3, toArray -> J8
open Nat renaming add_sub_cancel -> A8, add_zero -> ya, divExact_eq_div -> Kq, div_eq_of_lt -> yQ, div_le_self -> yN, eq_of_mul_eq_mul_left -> JZ, eq_zero_or_pos -> yA, gcd -> J0, gcd_comm -> JM, gcd_dvd_left -> Kg, gcd_dvd_right -> Kh, gcd_le_left -> J7, gcd_le_right -> Kw, gcd_mul_left -> J2, gcd_pos_of_pos_right -> Kf, gcd_zero_right -> Ka, le_mul_of_pos_left -> J5, le_of_eq -> JP, le_of_lt -> J9, le_total -> J1, le_trans -> eu, lt_of_lt_of_le -> ey, lt_or_ge -> eb, min_eq_left -> yZ, min_eq_right -> Ag, mod_eq_of_lt -> yr, mod_lt -> ys, mul_add -> yV, mul_assoc -> yW, mul_comm -> yT, mul_div_cancel_left -> J4, mul_one -> z2, mul_zero -> y2, pow_add -> y8, pow_le_pow_right -> y6, pow_mul -> zy, pow_succ -> yS, pow_zero -> JJ, sub_le -> JY, two_pow_pos -> y5, zero_add -> yl, zero_le -> JL, zero_mod -> G1
open Rat renaming add -> Km, den_intCast -> Kt, maybeNormalize -> Ko, mul -> Kr, neg_den -> Kv, neg_num -> Ku, num_intCast -> Ks, sub_eq_add_neg -> Kz
open Go.RowKit
open Go.RowKit Go.Shelf
theorem DU (b:Nat)(hl:(wds b).length<=1000000000)(I:18446744073709551616<=b)(w:World)(h:Hp)(g:G w h):CV 151 #[nv 0,nv b] w h (nv (0+b)):=by
 have a:=sS g;have h2l:=cG I;refine go Tryz.func151 [(0,nv 0),(1,nv b)] rfl (aD (lA 2 25 (nc 0) a (fun z w2 h3 a=>lA 3 25 (nc b) a (fun B w5 h6 a=>lA 4 25 ([uV 0,eS]) a (fun F w8 h9 a=>af (aa a [.v (qP z 1),.o (.string (hi 0)) 2 1 1] (lV 14 qT ?_ (hr:=rb kR (jJ rfl)))))))));refine lL a [.c,.v (qP B 1),.o (.string (hi b)) 1 1 1] (lV 18 qF ?_ (hr:=rb kR (iF (eJ I))));refine lL a [.v qF] (ah (cK (cQ ?_)));obtain ⟨H,hK_⟩:∃ H,H=w8.heap.size:=⟨_,rfl⟩;have U:F<H:=by rw[hK_];exact eE a 0
 have D:B<H:=by rw[hK_];exact eE a 1
 have C:z<H:=by rw[hK_];exact eE a 2
 refine mq ⟨[],some (H,[])⟩ 0 mixed ?_;have bk:=a.g.size;replace a:=a.drew;have u:=JP hK_;refine zO 0 36 [(2,0,2)] (nv 0) rfl u a (fun p Y=>by obtain rfl:=ov.1 Y;exact C) (zO 2 38 [(1,0,2)] (nv b) rfl u a (fun p Y=>by obtain rfl:=ov.1 Y;exact D) (rC 1 37 (kI _ _ a.g) rfl u ?_));rintro _ _ _ u12 u rfl;replace a:=a.step u12;refine rC 3 39 (fC b oM oM _ _ a.g) rfl u ?_;rintro _ _ _ Z u ⟨e,rfl,M,L,bl⟩;obtain ⟨zj,a,-,-⟩:=a.take Z M L;replace a:=a.to [⟨e,23,(wds b).flatMap aj⟩,⟨F,25,[uV 0,eS]⟩,⟨B,25,nc b⟩,⟨z,25,nc 0⟩] [];refine zV 4 7 (sZ) (zV 5 8 (qS (sB e) ((wds b).length) ((wds b).length)) (tN (cQ (aa a [.c,.v (iV 0),.c,.v (nV ((wds b).length))] ?_))));have ⟨zf,W⟩:=dT (p:=(0:Int)<(((wds b).length:Nat):Int)) oM;refine lB 44 zf (au (kQ (lL a pR (aR (lL a ac (af (aa a [.c,.v (nV ((wds b).length)),.c] (bh ?_))))))));refine cj _ (CG.loop (fun X Γ w_=>∃ (i:Nat)(l:List Nat)(x:Nat)(h_:Hp),X=(wds b).length-i/\Γ=[(4,pB F),(7,qS (sB e) ((wds b).length) ((wds b).length)),(8,sZ),(48,nV ((wds b).length)),(49,nV i),(9,mV x)]/\SS w h w_ h_ [⟨e,23,(l).flatMap aj⟩,⟨F,25,[uV 0,eS]⟩,⟨B,25,nc b⟩,⟨z,25,nc 0⟩] [] []/\i<=(wds b).length/\l.length=(wds b).length/\Wd l/\x<=1/\ak 18446744073709551616 l+18446744073709551616^i*x=b+ak 18446744073709551616 (([]:List Nat).take i)) _ ⟨0,wds b,0,zj,rfl,rfl,a.to _ _,JL _,rfl,Wd.wds _,oM,(by have hx_:ak 18446744073709551616 (wds b)=b:=ay _;rw[hx_];simp[ak])⟩ ?_);rintro _ _ _ ⟨i,l,x,zk,bm,rfl,a,hi,V,Q,hcy,inv⟩;have hlk:=Q.get i;have hyk:=Wd.get (l:=[]) Dg.nil i;refine aD ?_;cases O:(decide ((i:Int)<(((wds b).length:Nat):Int)))
 .
  have zd:=oF O;refine lB 50 O (af (cW (CG.exit ?_)))
  show CG _ _ _ _ _ _ _ _
  refine cQ (aD ?_);have y:=inv;rw[z8 (show ([]).length<=i by first|omega|(simp;done)|(simp;omega))] at y
  rw[show i=l.length by omega] at y
  have hE_:([]:List Nat)=[]:=rfl;replace y:ak 18446744073709551616 l+18446744073709551616^l.length*x=(0+b):=by rw[y];simp[ak]
  refine lL a ac ?_;cases S:((x:Int) != (0:Int))
  .
   have ze:=aY S;refine lB 75 S (ah (cK (aD ?_)));obtain ⟨_,a,J,bn,bt⟩:=a.pub 0;replace a:=(a.to [⟨F,25,[uV 0,eS]⟩,⟨B,25,nc b⟩,⟨z,25,nc 0⟩] []).aS (SlO.of_flat (sz:=1) (f:=aj) (d:=0) (b:=e) (o:=0) (l:=l) (fun _=>rfl) J);exact lL a ac (am 81 a (cZ (sB e) ((wds b).length) (l) ((wds b).length) ((0+b)) (by first|rfl|assumption|(simp;done)|(simp;omega)|omega) (Q) (by rw[show x=0 by omega,y2,ya] at y;exact y) sM sM _ _ a.g a.f.1) (fun _ _ a=>lP 0 0 (nc (0+b)) a (fun _ a=>ae a [(0,0,2)] (nv (0+b)) rfl)))
  have ze:=a6 S;refine lB 75 S (au (kQ (lL a aK (lR 78 23 1 ([mV x]) a (fun zl _ _ a=>HE 79 0 ((wds b).length) zl l aj 0 x 8 (uV 0) a a.f.1 oM oM (fun zm zn _ _ a bd=>?_))))));replace a:=a.to [⟨F,25,[uV 0,eS]⟩,⟨B,25,nc b⟩,⟨z,25,nc 0⟩] [];exact lL a ac (aR (lL a ac (am 81 a (cZ zm zn (l++[x]) ((wds b).length+1) ((0+b)) (by first|rfl|assumption|(simp;done)|(simp;omega)|omega) (Dg.append Q (Dg.one oM)) (by show ak _ (l++[x])=_;rw[dS];show _+_*(x+_*0)=_;rw[y2,ya];exact y) sM sM _ _ a.g a.f.1) (fun _ _ a=>lP 0 0 (nc (0+b)) a (fun _ a=>ae a [(0,0,2)] (nv (0+b)) rfl)))))
 have zd:=oT O;refine lB 50 O (af (cl (cK (cQ (kZ (aa a aK (aR (lL a ac (af (aa a [.c,.c,.v (iV 0)] ?_))))))))));have ⟨zg,bb⟩:=dF (p:=(i:Int)<(0:Int)) oM;refine lB 55 zg (ah (cK (kQ (lL a pR (lX 65 (sB e) ((wds b).length) ((wds b).length) 1 (i:Nat) i rfl ?_)))));refine lQ 66 0 l aj 1 0 i (mV ((l).getD i 0)) a oM (lL a aK ?_);obtain ⟨j,zc,bx,bq,bf,K⟩:=d4 ((l).getD i 0) 0 x wM wM oM;refine lV 69 (.tuple #[mV j,mV zc]) ?_ (hr:=dK kR (K _));refine lL a [.c,.v (mV j),.v (mV zc)] (lX 72 (sB e) ((wds b).length) ((wds b).length) 1 (i:Nat) i rfl ?_);refine lW 0 l aj 1 i j a oM (fun _ a=>?_);have zi:((l).set i j).length=(wds b).length:=by rw[Gx];exact V
 replace a:=a.to [⟨e,23,((l).set i j).flatMap aj⟩,⟨F,25,[uV 0,eS]⟩,⟨B,25,nc b⟩,⟨z,25,nc 0⟩] [];refine lL a ac (lN (kQ (bI 73 ((i:Nat)+1) (i+1) ?_)));refine lL a ac (lD ?_);intro a_ ka;refine ⟨_,_,?_,⟨i+1,(l).set i j,zc,zk,rfl,rfl,a.to _ _,oM,zi,(Q.set _ oM),oM,(gf oM inv (by first|omega|(have hy0:=cA (l:=([]:List Nat)) (k:=i) (by first|omega|(simp;done));omega)))⟩,ka.to _ kR⟩
 omega
theorem DG (a:Nat)(hl:(wds a).length<=1000000000)(J:18446744073709551616<=a)(w:World)(h:Hp)(g:G w h):CV 151 #[nv a,nv 0] w h (nv (a+0)):=by
 have e:=sS g;have h2l:=cG J;refine go Tryz.func151 [(0,nv a),(1,nv 0)] rfl (aD (lA 2 25 (nc a) e (fun B w2 h3 e=>lA 3 25 (nc 0) e (fun H w5 h6 e=>lA 4 25 ([uV 0,eS]) e (fun F w8 h9 e=>af (aa e [.v (qP B 1),.o (.string (hi a)) 2 1 1] (lV 14 qF ?_ (hr:=rb kR (iF (eJ J))))))))));refine lL e ac (lG 16 ?_);refine lG 17 (lG 18 (lL e [.v qF] (ah (cK (cQ ?_)))));obtain ⟨I,hK_⟩:∃ I,I=w8.heap.size:=⟨_,rfl⟩;have W:F<I:=by rw[hK_];exact eE e 0
 have D:H<I:=by rw[hK_];exact eE e 1
 have C:B<I:=by rw[hK_];exact eE e 2
 refine mq ⟨[],some (I,[])⟩ 0 mixed ?_;have bk:=e.g.size;replace e:=e.drew;have x:=JP hK_;refine zO 0 36 [(2,0,2)] (nv a) rfl x e (fun p hp=>by obtain rfl:=ov.1 hp;exact C) (zO 2 38 [(1,0,2)] (nv 0) rfl x e (fun p hp=>by obtain rfl:=ov.1 hp;exact D) (rC 1 37 (fC a oM oM _ _ e.g) rfl x ?_));rintro _ _ _ u12 x ⟨j,rfl,O,M,bl⟩;obtain ⟨_,e,-,-⟩:=e.take u12 O M;replace e:=e.to [⟨j,23,(wds a).flatMap aj⟩,⟨F,25,[uV 0,eS]⟩,⟨H,25,nc 0⟩,⟨B,25,nc a⟩] [];refine rC 3 39 (kI _ _ e.g) rfl x ?_;rintro _ _ zj V x rfl;replace e:=e.step V;refine zV 4 7 (qS (sB j) ((wds a).length) ((wds a).length)) (zV 5 8 (sZ) (tN (cQ (aa e [.c,.v (nV ((wds a).length)),.c,.v (iV 0)] ?_))));have ⟨zf,Y⟩:=dF (p:=(((wds a).length:Nat):Int)<(0:Int)) oM;refine lB 44 zf (ah (cK (aa e ac (af (aa e [.c,.v (nV ((wds a).length)),.c] (bh ?_))))));refine cj _ (CG.loop (fun Z Γ w_=>∃ (i:Nat)(l:List Nat)(y:Nat)(h_:Hp),Z=(wds a).length-i/\Γ=[(4,pB F),(7,qS (sB j) ((wds a).length) ((wds a).length)),(8,sZ),(48,nV ((wds a).length)),(49,nV i),(9,mV y)]/\SS w h w_ h_ [⟨j,23,(l).flatMap aj⟩,⟨F,25,[uV 0,eS]⟩,⟨H,25,nc 0⟩,⟨B,25,nc a⟩] [] []/\i<=(wds a).length/\l.length=(wds a).length/\Wd l/\y<=1/\ak 18446744073709551616 l+18446744073709551616^i*y=a+ak 18446744073709551616 (([]:List Nat).take i)) _ ⟨0,wds a,0,zj,rfl,rfl,e.to _ _,JL _,rfl,Wd.wds _,oM,(by have hx_:ak 18446744073709551616 (wds a)=a:=ay _;rw[hx_];simp[ak])⟩ ?_);rintro _ _ _ ⟨i,l,y,zk,bm,rfl,e,hi,X,S,hcy,inv⟩;have hlk:=S.get i;have hyk:=Wd.get (l:=[]) Dg.nil i;refine aD ?_;cases Q:(decide ((i:Int)<(((wds a).length:Nat):Int)))
 .
  have zd:=oF Q;refine lB 50 Q (af (cW (CG.exit ?_)))
  show CG _ _ _ _ _ _ _ _
  refine cQ (aD ?_);have z:=inv;rw[z8 (show ([]).length<=i by first|omega|(simp;done)|(simp;omega))] at z
  rw[show i=l.length by omega] at z
  have hE_:([]:List Nat)=[]:=rfl;replace z:ak 18446744073709551616 l+18446744073709551616^l.length*y=(a+0):=by rw[z];simp[ak]
  refine lL e ac ?_;cases U:((y:Int) != (0:Int))
  .
   have ze:=aY U;refine lB 75 U (ah (cK (aD ?_)));obtain ⟨_,e,K,bn,bt⟩:=e.pub 0;replace e:=(e.to [⟨F,25,[uV 0,eS]⟩,⟨H,25,nc 0⟩,⟨B,25,nc a⟩] []).aS (SlO.of_flat (sz:=1) (f:=aj) (d:=0) (b:=j) (o:=0) (l:=l) (fun _=>rfl) K);exact lL e ac (am 81 e (cZ (sB j) ((wds a).length) (l) ((wds a).length) ((a+0)) (by first|rfl|assumption|(simp;done)|(simp;omega)|omega) (S) (by rw[show y=0 by omega,y2,ya] at z;exact z) sM sM _ _ e.g e.f.1) (fun _ _ e=>lP 0 0 (nc (a+0)) e (fun _ e=>ae e [(0,0,2)] (nv (a+0)) rfl)))
  have ze:=a6 U;refine lB 75 U (au (kQ (lL e aK (lR 78 23 1 ([mV y]) e (fun zl _ _ e=>HE 79 0 ((wds a).length) zl l aj 0 y 8 (uV 0) e e.f.1 oM oM (fun zm zn _ _ e bd=>?_))))));replace e:=e.to [⟨F,25,[uV 0,eS]⟩,⟨H,25,nc 0⟩,⟨B,25,nc a⟩] [];exact lL e ac (aR (lL e ac (am 81 e (cZ zm zn (l++[y]) ((wds a).length+1) ((a+0)) (by first|rfl|assumption|(simp;done)|(simp;omega)|omega) (Dg.append S (Dg.one oM)) (by show ak _ (l++[y])=_;rw[dS];show _+_*(y+_*0)=_;rw[y2,ya];exact z) sM sM _ _ e.g e.f.1) (fun _ _ e=>lP 0 0 (nc (a+0)) e (fun _ e=>ae e [(0,0,2)] (nv (a+0)) rfl)))))
 have zd:=oT Q;refine lB 50 Q (af (cl (cK (cQ (kZ (aa e aK (aR (lL e ac (af (aa e [.c,.c,.v (iV 0)] ?_))))))))));have ⟨zg,bb⟩:=dF (p:=(i:Int)<(0:Int)) oM;refine lB 55 zg (ah (cK (kQ (lL e pR (lX 65 (sB j) ((wds a).length) ((wds a).length) 1 (i:Nat) i rfl ?_)))));refine lQ 66 0 l aj 1 0 i (mV ((l).getD i 0)) e oM (lL e aK ?_);obtain ⟨u,zc,bx,bq,bf,L⟩:=d4 ((l).getD i 0) 0 y wM wM oM;refine lV 69 (.tuple #[mV u,mV zc]) ?_ (hr:=dK kR (L _));refine lL e [.c,.v (mV u),.v (mV zc)] (lX 72 (sB j) ((wds a).length) ((wds a).length) 1 (i:Nat) i rfl ?_);refine lW 0 l aj 1 i u e oM (fun _ e=>?_);have zi:((l).set i u).length=(wds a).length:=by rw[Gx];exact X
 replace e:=e.to [⟨j,23,((l).set i u).flatMap aj⟩,⟨F,25,[uV 0,eS]⟩,⟨H,25,nc 0⟩,⟨B,25,nc a⟩] [];refine lL e ac (lN (kQ (bI 73 ((i:Nat)+1) (i+1) ?_)));refine lL e ac (lD ?_);intro a_ ka;refine ⟨_,_,?_,⟨i+1,(l).set i u,zc,zk,rfl,rfl,e.to _ _,oM,zi,(S.set _ oM),oM,(gf oM inv (by first|omega|(have hy0:=cA (l:=([]:List Nat)) (k:=i) (by first|omega|(simp;done));omega)))⟩,ka.to _ kR⟩
 omega
theorem FT (a b:Nat)(d:(wds a).length<=1000000000)(c:(wds b).length<=1000000000)(w:World)(h:Hp)(g:G w h):CV 151 #[nv a,nv b] w h (nv (a+b)):=by
 rcases eb a 18446744073709551616 with h1|h1
 ·rcases eb b 18446744073709551616 with h2|h2
  ·exact He a b d c h1 h2 w h g
  ·rcases yA a with h3|h3
   ·subst h3;exact DU b c h2 w h g
   ·exact CP a b d c h3 h2 (by have:=cG h2;have:=(dR (n:=a)).2 h1;omega) w h g
 ·rcases yA b with h3|h3
  ·subst h3;exact DG a d h1 w h g
  ·rcases eb (wds a).length (wds b).length with h4|h4
   ·exact CP a b d c oM (by have:=cG h1;rcases eb b 18446744073709551616 with h5|h5;(have:=(dR (n:=b)).2 h5;omega);exact h5) h4 w h g
   ·exact FM a b d c h1 h3 h4 w h g
theorem nW {l:List Nat}{a b c:Nat}(d:Wd l)(inv:ak 18446744073709551616 l+b=a+18446744073709551616^l.length*c)(e:b<=a)(f:c<=1):aF l=a-b:=by
 have h1:=ci d
 have:c=0:=by
  rcases yA c with h|h
  ·exact h
  ·have:c=1:=by omega
   subst this;rw[z2] at inv
   omega
 subst this;rw[y2,ya] at inv
 show ak _ l=_
 omega
theorem BF {a b q r:Nat}(h:a=b*q+r)(hr:r<b):q=a/b/\r=a%b:=by
 subst h;rw[Nat.mul_add_div oM,yQ hr,Nat.mul_add_mod,yr hr];simp
theorem fN (n:Nat)(d:(wds n).length<=1000000000)(w:World)(h:Hp)(g:G w h):CR 134 #[nv n] w h (fun v h1=>∃ A c,v=.slice A (wds n).length c/\(wds n).length<=c/\SlO 1 aj 0 h1 A (wds n)):=by
 rcases yA n with h0|h0
 ·subst h0
  refine (kI w h g).mono ?_;rintro _ w' ⟨_,a,rfl,u,rfl⟩;exact ⟨_,a,rfl,u,none,0,rfl,nR _,SlO.nil⟩
 ·refine (fC n h0 d w h g).mono ?_
  rintro _ w' ⟨_,a,rfl,u,b,rfl,_,_,e⟩;exact ⟨_,a,rfl,u,_,_,rfl,nR _,e⟩
theorem CU (a b:Nat)(e:a<b)(f:(wds a).length<=1000000000)(i:(wds b).length<=1000000000)(w:World)(h:Hp)(g:G w h):CV 152 #[nv a,nv b] w h (.tuple #[nv 0,.bool false]):=by
 have c:=sS g;have l:=dw e;refine go Tryz.func152 [(0,nv a),(1,nv b)] rfl (aD (lA 2 25 (nc a) c (fun x w2 B c=>lA 3 25 (nc b) c (fun z y F c=>lA 4 25 ([uV 0,eS]) c (fun C u D c=>lL c ac (af (aa c [.o (nv a) 2 0 2,.o (nv b) 1 0 2] (am 13 c (lf a b f i _ _ c.g) (fun _ _ c=>?_)))))))));have ⟨j,d⟩:=dT (p:=(bV a b:Int)<(0:Int)) oM;exact lB 14 j (au (aa c [.v (.agg #[uV 0,eS])] (lP 0 0 ([uV 0,eS]) c (fun _ c=>lL c ac (ae c [(0,0,2)] (.tuple #[.agg #[uV 0,eS],qF]) rfl)))))
theorem GV (a b:Nat)(i:(wds a).length<=1000000000)(j:(wds b).length<=1000000000)(f:b<=a)(d:a<18446744073709551616)(w:World)(h:Hp)(g:G w h):CV 152 #[nv a,nv b] w h (.tuple #[nv (a-b),.bool true]):=by
 have c:=sS g;have y:=fJ f;refine go Tryz.func152 [(0,nv a),(1,nv b)] rfl (aD (lA 2 25 (nc a) c (fun l w2 C c=>lA 3 25 (nc b) c (fun x B H c=>lA 4 25 ([uV 0,eS]) c (fun D z F c=>lL c ac (af (aa c [.o (nv a) 2 0 2,.o (nv b) 1 0 2] (am 13 c (lf a b i j _ _ c.g) (fun _ _ c=>?_)))))))));have ⟨u,e⟩:=dF (p:=(bV a b:Int)<(0:Int)) oM;refine lB 14 u (ah (cK (cQ (aa c [.v (qP l 1),.o (.string (hi a)) 2 1 1] (lV 18 qT ?_ (hr:=rb kR (jJ (em d))))))));refine au (aa c [.v (pB l),.o (mV (a%18446744073709551616)) 2 0 1,.v (pB x),.o (mV (b%18446744073709551616)) 1 0 1] (lV 23 (mV ((a%18446744073709551616)-(b%18446744073709551616))) ?_ (hr:=rU ((((a%18446744073709551616:Nat):Int)-((b%18446744073709551616:Nat):Int))) kR (gd (a%18446744073709551616) (b%18446744073709551616) oM oM))));exact lL c [.v (.agg #[mV ((a%18446744073709551616)-(b%18446744073709551616)),eS])] (lP 0 0 ([mV ((a%18446744073709551616)-(b%18446744073709551616)),eS]) c (fun _ c=>lL c ac (ae c [(0,0,2)] (.tuple #[.agg #[mV ((a%18446744073709551616)-(b%18446744073709551616)),eS],qT]) (by rw[yr d,yr (show b<18446744073709551616 by omega),iR oM]))))
theorem GZ (a b:Nat)(hla:(wds a).length<=1000000000)(hlb:(wds b).length<=1000000000)(Q:b<=a)(has:18446744073709551616<=a)(hb0:0<b)(w:World)(h:Hp)(g:G w h):CV 152 #[nv a,nv b] w h (.tuple #[nv (a-b),.bool true]):=by
 have e:=sS g;have hcl:=fJ Q;have hlm:=cJ Q;refine go Tryz.func152 [(0,nv a),(1,nv b)] rfl (aD (lA 2 25 (nc a) e (fun B w2 h3 e=>lA 3 25 (nc b) e (fun D w5 h6 e=>lA 4 25 ([uV 0,eS]) e (fun C w8 h9 e=>lL e ac (af (aa e [.o (nv a) 2 0 2,.o (nv b) 1 0 2] (am 13 e (lf a b hla hlb _ _ e.g) (fun zl _ e=>?_)))))))));have ⟨zi,bb⟩:=dF (p:=(bV a b:Int)<(0:Int)) oM;refine lB 14 zi (ah (cK (cQ (aa e [.v (qP B 1),.o (.string (hi a)) 2 1 1] (lV 18 qF ?_ (hr:=rb kR (iF (eJ has))))))));refine ah (cK (cQ ?_));obtain ⟨I,hK_⟩:∃ I,I=zl.heap.size:=⟨_,rfl⟩;have bd:C<I:=by rw[hK_];exact eE e 0
 have F:D<I:=by rw[hK_];exact eE e 1
 have H:B<I:=by rw[hK_];exact eE e 2
 refine mq ⟨[],some (I,[])⟩ 0 mixed ?_;have bt:=e.g.size;replace e:=e.drew;have z:=JP hK_;refine zO 0 25 [(2,0,2)] (nv a) rfl z e (fun p hp=>by obtain rfl:=ov.1 hp;exact H) (zO 2 27 [(1,0,2)] (nv b) rfl z e (fun p hp=>by obtain rfl:=ov.1 hp;exact F) (rC 1 26 (fC a oM oM _ _ e.g) rfl z ?_));rintro _ _ _ u15 z ⟨j,rfl,L,M,bf⟩;obtain ⟨_,e,-,-⟩:=e.take u15 L M;replace e:=e.to [⟨j,23,(wds a).flatMap aj⟩,⟨C,25,[uV 0,eS]⟩,⟨D,25,nc b⟩,⟨B,25,nc a⟩] [];refine rC 3 28 (fC b oM oM _ _ e.g) rfl z ?_;rintro _ _ _ u19 z ⟨u,rfl,X,S,bn⟩;obtain ⟨zm,e,-,-⟩:=e.take u19 X S;replace e:=e.to [⟨u,23,(wds b).flatMap aj⟩,⟨j,23,(wds a).flatMap aj⟩,⟨C,25,[uV 0,eS]⟩,⟨D,25,nc b⟩,⟨B,25,nc a⟩] [];refine zV 4 6 (qS (sB j) ((wds a).length) ((wds a).length)) (zV 5 7 (qS (sB u) ((wds b).length) ((wds b).length)) (xL (lL e ac (af (aa e [.c,.v (nV ((wds a).length)),.c] (bh ?_))))));refine cj _ (CG.loop (fun μ_ Γ w_=>∃ (i:Nat)(l:List Nat)(J:Nat)(h_:Hp),μ_=(wds a).length-i/\Γ=[(4,pB C),(5,qF),(6,qS (sB j) ((wds a).length) ((wds a).length)),(7,qS (sB u) ((wds b).length) ((wds b).length)),(30,nV ((wds a).length)),(31,nV i),(8,mV J)]/\SS w h w_ h_ [⟨u,23,(wds b).flatMap aj⟩,⟨j,23,(l).flatMap aj⟩,⟨C,25,[uV 0,eS]⟩,⟨D,25,nc b⟩,⟨B,25,nc a⟩] [] []/\i<=(wds a).length/\l.length=(wds a).length/\Wd l/\J<=1/\ak 18446744073709551616 l+ak 18446744073709551616 ((wds b:List Nat).take i)=a+18446744073709551616^i*J) _ ⟨0,wds a,0,zm,rfl,rfl,e.to _ _,JL _,rfl,Wd.wds _,oM,(by have hx_:ak 18446744073709551616 (wds a)=a:=ay _;rw[hx_];simp[ak])⟩ ?_);rintro _ _ _ ⟨i,l,J,zg,bm,rfl,e,hi,U,V,hbo,inv⟩;have hlk:=V.get i;have hyk:=(Wd.wds b).get i;refine aD ?_;cases Y:(decide ((i:Int)<(((wds a).length:Nat):Int)))
 .
  have ze:=oF Y;refine lB 32 Y (af (cW (CG.exit ?_)))
  show CG _ _ _ _ _ _ _ _
  refine aD ?_;rw[z8 (show (wds b).length<=i by first|omega|(simp;done)|(simp;omega)),show i=l.length by omega] at inv
  have hE:aF l=a-b:=nW V (by have hb_:ak 18446744073709551616 (wds b)=b:=ay b;rw[<-hb_];exact inv) oM hbo;obtain ⟨_,e,W,b0,bx⟩:=e.pub 1;replace e:=(e.to [⟨u,23,(wds b).flatMap aj⟩,⟨C,25,[uV 0,eS]⟩,⟨D,25,nc b⟩,⟨B,25,nc a⟩] []).aS (SlO.of_flat (sz:=1) (f:=aj) (d:=0) (b:=j) (o:=0) (l:=l) (fun _=>rfl) W);exact lL e ac (am 57 e (cZ (sB j) ((wds a).length) (l) ((wds a).length) ((a-b)) (by first|rfl|assumption|(simp;done)|(simp;omega)|omega) (V) (hE) sM sM _ _ e.g e.f.1) (fun _ _ e=>lP 1 0 (nc (a-b)) e (fun _ e=>lL e ac (ae e [(1,0,2)] (.tuple #[nv (a-b),qT]) rfl))))
 have ze:=oT Y;refine lB 32 Y (af (cl (cK (cQ (kZ (aa e aK (aR (lL e ac (af (aa e [.c,.c,.v (nV ((wds b).length))] ?_))))))))));cases Z:(decide ((i:Int)<(((wds b).length:Nat):Int)))
 .
  have zf:=oF Z;refine lB 37 Z (ah (cK (kQ (lL e pR (lX 47 (sB j) ((wds a).length) ((wds a).length) 1 (i:Nat) i rfl ?_)))));refine lQ 48 1 l aj 1 0 i (mV ((l).getD i 0)) e oM (lL e aK ?_);obtain ⟨y,zc,bz,bk,bl,K⟩:=iU ((l).getD i 0) 0 J wM wM oM;refine lV 51 (.tuple #[mV y,mV zc]) ?_ (hr:=dK kR (K _));refine lL e [.c,.v (mV y),.v (mV zc)] (lX 54 (sB j) ((wds a).length) ((wds a).length) 1 (i:Nat) i rfl ?_);refine lW 1 l aj 1 i y e oM (fun _ e=>?_);have zj:((l).set i y).length=(wds a).length:=by rw[Gx];exact U
  replace e:=e.to [⟨u,23,(wds b).flatMap aj⟩,⟨j,23,((l).set i y).flatMap aj⟩,⟨C,25,[uV 0,eS]⟩,⟨D,25,nc b⟩,⟨B,25,nc a⟩] [];refine lL e ac (lN (kQ (bI 55 ((i:Nat)+1) (i+1) ?_)));refine lL e ac (lD ?_);intro a_ ka;refine ⟨_,_,?_,⟨i+1,(l).set i y,zc,zg,rfl,rfl,e.to _ _,oM,zj,(V.set _ oM),oM,(gz oM inv (by first|omega|(have hy0:=cA (l:=(wds b:List Nat)) (k:=i) (by first|omega|(simp;done));omega)))⟩,ka.to _ kR⟩
  omega
 have zf:=oT Z;refine lB 37 Z (au (kQ (lL e aK (lX 40 (sB u) ((wds b).length) ((wds b).length) 1 (i:Nat) i rfl ?_))));refine lQ 41 0 (wds b) aj 1 0 i (mV ((wds b).getD i 0)) e oM (lL e ac (lN (kQ (lL e pR (lX 47 (sB j) ((wds a).length) ((wds a).length) 1 (i:Nat) i rfl ?_)))));refine lQ 48 1 l aj 1 0 i (mV ((l).getD i 0)) e oM (lL e aK ?_);obtain ⟨x,zd,bq,b2,b3,O⟩:=iU ((l).getD i 0) ((wds b).getD i 0) J wM wM oM;refine lV 51 (.tuple #[mV x,mV zd]) ?_ (hr:=dK kR (O _));refine lL e [.c,.v (mV x),.v (mV zd)] (lX 54 (sB j) ((wds a).length) ((wds a).length) 1 (i:Nat) i rfl ?_);refine lW 1 l aj 1 i x e oM (fun _ e=>?_);have zk:((l).set i x).length=(wds a).length:=by rw[Gx];exact U
 replace e:=e.to [⟨u,23,(wds b).flatMap aj⟩,⟨j,23,((l).set i x).flatMap aj⟩,⟨C,25,[uV 0,eS]⟩,⟨D,25,nc b⟩,⟨B,25,nc a⟩] [];refine lL e ac (lN (kQ (bI 55 ((i:Nat)+1) (i+1) ?_)));refine lL e ac (lD ?_);intro a_ ka;refine ⟨_,_,?_,⟨i+1,(l).set i x,zd,zg,rfl,rfl,e.to _ _,oM,zk,(V.set _ oM),oM,(gz oM inv (by first|omega|(have hy0:=cA (l:=(wds b:List Nat)) (k:=i) (by first|omega|(simp;done));omega)))⟩,ka.to _ kR⟩
 omega
theorem GG (a:Nat)(hla:(wds a).length<=1000000000)(S:18446744073709551616<=a)(w:World)(h:Hp)(g:G w h):CV 152 #[nv a,nv 0] w h (.tuple #[nv a,.bool true]):=by
 have e:=sS g;have hcl:=fJ (show 0<=a by omega);refine go Tryz.func152 [(0,nv a),(1,nv 0)] rfl (aD (lA 2 25 (nc a) e (fun B w2 h3 e=>lA 3 25 (nc 0) e (fun H w5 h6 e=>lA 4 25 ([uV 0,eS]) e (fun D w8 h9 e=>lL e ac (af (aa e [.o (nv a) 2 0 2,.o (nv 0) 1 0 2] (am 13 e (lf a 0 hla (by simp[kV]) _ _ e.g) (fun zg _ e=>?_)))))))));have ⟨zd,Y⟩:=dF (p:=(bV a 0:Int)<(0:Int)) oM;refine lB 14 zd (ah (cK (cQ (aa e [.v (qP B 1),.o (.string (hi a)) 2 1 1] (lV 18 qF ?_ (hr:=rb kR (iF (eJ S))))))));refine ah (cK (cQ ?_));obtain ⟨C,hK_⟩:∃ C,C=zg.heap.size:=⟨_,rfl⟩;have Q:D<C:=by rw[hK_];exact eE e 0
 have z:H<C:=by rw[hK_];exact eE e 1
 have y:B<C:=by rw[hK_];exact eE e 2
 refine mq ⟨[],some (C,[])⟩ 0 mixed ?_;have bd:=e.g.size;replace e:=e.drew;have x:=JP hK_;refine zO 0 25 [(2,0,2)] (nv a) rfl x e (fun p X=>by obtain rfl:=ov.1 X;exact y) (zO 2 27 [(1,0,2)] (nv 0) rfl x e (fun p X=>by obtain rfl:=ov.1 X;exact z) (rC 1 26 (fC a oM oM _ _ e.g) rfl x ?_));rintro _ _ _ Z x ⟨j,rfl,K,I,bf⟩;obtain ⟨_,e,-,-⟩:=e.take Z K I;replace e:=e.to [⟨j,23,(wds a).flatMap aj⟩,⟨D,25,[uV 0,eS]⟩,⟨H,25,nc 0⟩,⟨B,25,nc a⟩] [];refine rC 3 28 (kI _ _ e.g) rfl x ?_;rintro _ _ zi u19 x rfl;replace e:=e.step u19;refine zV 4 6 (qS (sB j) ((wds a).length) ((wds a).length)) (zV 5 7 (sZ) (xL (lL e ac (af (aa e [.c,.v (nV ((wds a).length)),.c] (bh ?_))))));refine cj _ (CG.loop (fun W Γ w_=>∃ (i:Nat)(l:List Nat)(F:Nat)(h_:Hp),W=(wds a).length-i/\Γ=[(4,pB D),(5,qF),(6,qS (sB j) ((wds a).length) ((wds a).length)),(7,sZ),(30,nV ((wds a).length)),(31,nV i),(8,mV F)]/\SS w h w_ h_ [⟨j,23,(l).flatMap aj⟩,⟨D,25,[uV 0,eS]⟩,⟨H,25,nc 0⟩,⟨B,25,nc a⟩] [] []/\i<=(wds a).length/\l.length=(wds a).length/\Wd l/\F<=1/\ak 18446744073709551616 l+ak 18446744073709551616 (([]:List Nat).take i)=a+18446744073709551616^i*F) _ ⟨0,wds a,0,zi,rfl,rfl,e.to _ _,JL _,rfl,Wd.wds _,oM,(by have hx_:ak 18446744073709551616 (wds a)=a:=ay _;rw[hx_];simp[ak])⟩ ?_);rintro _ _ _ ⟨i,l,F,zj,bm,rfl,e,hi,U,O,hbo,inv⟩;have hlk:=O.get i;have hyk:=Wd.get (l:=[]) Dg.nil i;refine aD ?_;cases M:(decide ((i:Int)<(((wds a).length:Nat):Int)))
 .
  have zc:=oF M;refine lB 32 M (af (cW (CG.exit ?_)))
  show CG _ _ _ _ _ _ _ _
  refine aD ?_;rw[List.take_nil,show i=l.length by omega] at inv
  have hE:aF l=a:=nW (b:=0) O inv oM hbo;obtain ⟨_,e,J,bb,bq⟩:=e.pub 0;replace e:=(e.to [⟨D,25,[uV 0,eS]⟩,⟨H,25,nc 0⟩,⟨B,25,nc a⟩] []).aS (SlO.of_flat (sz:=1) (f:=aj) (d:=0) (b:=j) (o:=0) (l:=l) (fun _=>rfl) J);exact lL e ac (am 57 e (cZ (sB j) ((wds a).length) (l) ((wds a).length) (a) (by first|rfl|assumption|(simp;done)|(simp;omega)|omega) (O) (hE) sM sM _ _ e.g e.f.1) (fun _ _ e=>lP 0 0 (nc a) e (fun _ e=>lL e ac (ae e [(0,0,2)] (.tuple #[nv a,qT]) rfl))))
 have zc:=oT M;refine lB 32 M (af (cl (cK (cQ (kZ (aa e aK (aR (lL e ac (af (aa e [.c,.c,.v (iV 0)] ?_))))))))));have ⟨ze,V⟩:=dF (p:=(i:Int)<(0:Int)) oM;refine lB 37 ze (ah (cK (kQ (lL e pR (lX 47 (sB j) ((wds a).length) ((wds a).length) 1 (i:Nat) i rfl ?_)))));refine lQ 48 0 l aj 1 0 i (mV ((l).getD i 0)) e oM (lL e aK ?_);obtain ⟨u,zb,bl,bn,bk,L⟩:=iU ((l).getD i 0) 0 F wM wM oM;refine lV 51 (.tuple #[mV u,mV zb]) ?_ (hr:=dK kR (L _));refine lL e [.c,.v (mV u),.v (mV zb)] (lX 54 (sB j) ((wds a).length) ((wds a).length) 1 (i:Nat) i rfl ?_);refine lW 0 l aj 1 i u e oM (fun _ e=>?_);have zf:((l).set i u).length=(wds a).length:=by rw[Gx];exact U
 replace e:=e.to [⟨j,23,((l).set i u).flatMap aj⟩,⟨D,25,[uV 0,eS]⟩,⟨H,25,nc 0⟩,⟨B,25,nc a⟩] [];refine lL e ac (lN (kQ (bI 55 ((i:Nat)+1) (i+1) ?_)));refine lL e ac (lD ?_);intro a_ ka;refine ⟨_,_,?_,⟨i+1,(l).set i u,zb,zj,rfl,rfl,e.to _ _,oM,zf,(O.set _ oM),oM,(gz oM inv (by first|omega|(have hy0:=cA (l:=([]:List Nat)) (k:=i) (by first|omega|(simp;done));omega)))⟩,ka.to _ kR⟩
 omega
theorem B7 (a b:Nat)(e:b<=a)(c:(wds a).length<=1000000000)(d:(wds b).length<=1000000000)(w:World)(h:Hp)(g:G w h):CV 152 #[nv a,nv b] w h (.tuple #[nv (a-b),.bool true]):=by
 rcases eb a 18446744073709551616 with h1|h1
 ·exact GV a b c d e h1 w h g
 ·rcases yA b with h3|h3
  ·subst h3;exact GG a c h1 w h g
  ·exact GZ a b c d e h1 h3 w h g
theorem Gu (a b:Nat)(K:(wds a).length<=1000000000)(M:(wds b).length<=1000000000)(p:a<18446744073709551616)(x:b<18446744073709551616)(w:World)(h:Hp)(g:G w h):CV 106 #[nv a,nv b] w h (nv (a*b)):=by
 have e:=sS g;have B:=yr p;have C:=yr x;refine go Tryz.func106 [(0,nv a),(1,nv b)] rfl (aD (lA 2 25 (nc a) e (fun D w2 U e=>lA 3 25 (nc b) e (fun F S X e=>lA 4 25 ([uV 0,eS]) e (fun V Q W e=>af (aa e [.v (qP D 1),.o (.string (hi a)) 2 1 1] (lV 9 qT ?_ (hr:=rb kR (jJ (em p))))))))));refine lL e [.c,.v (qP F 1),.o (.string (hi b)) 1 1 1] (lV 13 qT ?_ (hr:=rb kR (jJ (em x))));refine lL e [.v qT] (au (aa e [.v (pB D),.o (mV (a%18446744073709551616)) 2 0 1,.v (pB F),.o (mV (b%18446744073709551616)) 1 0 1] (lC 20 e (ny (a%18446744073709551616) (b%18446744073709551616) wM wM _ _ e.g) ?_)));rintro _ _ _ e ⟨i,j,rfl,u,J,I,H⟩;have y:=ju (a:=(a%18446744073709551616)) (b:=(b%18446744073709551616)) wM wM;refine lL e [.c,.v (mV i),.v (mV j),.c,.c] (af (aD ?_));rw[B,C] at u
 refine lL e ac ?_;cases z:((i:Int) == (0:Int))
 .
  have O:=ag z;refine lB 24 z (ah (cK (aa e aK (lR 29 23 2 ([mV j,mV i]) e (fun L _ _ e=>?_)))));replace e:=e.aS (SlO.of_flat (sz:=1) (f:=aj) (d:=0) (l:=[j,i]) (fun _=>rfl) e.f.1);exact am 30 e (cZ (sB L) 2 ([j,i]) 2 ((a*b)) (by first|rfl|assumption|(simp;done)|(simp;omega)|omega) (Dg.cons oM (Dg.one oM)) (by show j+18446744073709551616*(i+18446744073709551616*0)=a*b;omega) sM sM _ _ e.g e.f.1) (fun _ _ e=>lP 0 0 (nc (a*b)) e (fun _ e=>ae e [(0,0,2)] (nv (a*b)) rfl))
 have O:=eq_of_beq z;exact lB 24 z (au (aa e [.c,.v (.agg #[mV j,eS])] (lP 0 0 ([mV j,eS]) e (fun _ e=>ae e [(0,0,2)] (.agg #[mV j,eS]) (by rw[show j=a*b by omega];exact iR oM)))))
theorem GC (a b:Nat)(J:(wds a).length<=1000000000)(L:(wds b).length<=1000000000)(i:18446744073709551616<=a)(w:World)(h:Hp)(g:G w h):CV 106 #[nv a,nv b] w h (nv (a*b)):=by
 have c:=sS g;refine go Tryz.func106 [(0,nv a),(1,nv b)] rfl (aD (lA 2 25 (nc a) c (fun I w2 S c=>lA 3 25 (nc b) c (fun Q O W c=>lA 4 25 ([uV 0,eS]) c (fun U M V c=>af (aa c [.v (qP I 1),.o (.string (hi a)) 2 1 1] (lV 9 qF ?_ (hr:=rb kR (iF (eJ i))))))))));refine lL c ac (lG 11 ?_);refine lG 12 (lG 13 (lL c [.v qF] (ah (cK (cQ (cR 6 [] mixed c aq ?_))))));refine eO 0 31 [(2,0,2)] (nv a) c (eO 2 33 [(1,0,2)] (nv b) c (eC 1 32 c (fun _ _ c=>fN a oM _ _ c.g) ?_));rintro _ _ _ _ _ c ⟨d,l,rfl,C,j⟩;replace c:=c.aS j;refine eC 3 34 c (fun _ _ c=>fN b oM _ _ c.g) ?_;rintro _ _ _ _ _ c ⟨e,p,rfl,z,u⟩;replace c:=c.aS u;refine eC 4 35 c (fun _ _ c=>C2 d l (wds a) e p (wds b) (Wd.wds a) (Wd.wds b) oM oM _ _ c.g c.f.2.1 c.f.1) ?_;rintro _ _ _ _ _ c ⟨K,D,B,rfl,F,H,y,x,hm⟩;replace c:=c.aS hm;exact ai 5 36 c (fun _ _ c=>cZ K D (B) B.length ((a*b)) (by first|rfl|assumption|(simp;done)|(simp;omega)|omega) (y) (x.trans (by rw[ay,ay])) sM sM _ _ c.g c.f.1) (fun _ _ c=>bY c (fun _ _ c=>tP 6 0 0 (nc (a*b)) c (fun _ c=>tN (kX (c.ret [(0,0,2)] (nv (a*b)) rfl)))))
theorem Hd (a b:Nat)(M:(wds a).length<=1000000000)(Q:(wds b).length<=1000000000)(j:a<18446744073709551616)(l:18446744073709551616<=b)(w:World)(h:Hp)(g:G w h):CV 106 #[nv a,nv b] w h (nv (a*b)):=by
 have d:=sS g;refine go Tryz.func106 [(0,nv a),(1,nv b)] rfl (aD (lA 2 25 (nc a) d (fun K w2 V d=>lA 3 25 (nc b) d (fun L U Y d=>lA 4 25 ([uV 0,eS]) d (fun W S X d=>af (aa d [.v (qP K 1),.o (.string (hi a)) 2 1 1] (lV 9 qT ?_ (hr:=rb kR (jJ (em j))))))))));refine lL d [.c,.v (qP L 1),.o (.string (hi b)) 1 1 1] (lV 13 qF ?_ (hr:=rb kR (iF (eJ l))));refine lL d [.v qF] (ah (cK (cQ (cR 6 [] mixed d aq ?_))));refine eO 0 31 [(2,0,2)] (nv a) d (eO 2 33 [(1,0,2)] (nv b) d (eC 1 32 d (fun _ _ d=>fN a oM _ _ d.g) ?_));rintro _ _ _ _ _ d ⟨e,u,rfl,F,p⟩;replace d:=d.aS p;refine eC 3 34 d (fun _ _ d=>fN b oM _ _ d.g) ?_;rintro _ _ _ _ _ d ⟨i,x,rfl,C,y⟩;replace d:=d.aS y;refine eC 4 35 d (fun _ _ d=>C2 e u (wds a) i x (wds b) (Wd.wds a) (Wd.wds b) oM oM _ _ d.g d.f.2.1 d.f.1) ?_;rintro _ _ _ _ _ d ⟨O,H,D,rfl,I,J,B,z,hm⟩;replace d:=d.aS hm;exact ai 5 36 d (fun _ _ d=>cZ O H (D) D.length ((a*b)) (by first|rfl|assumption|(simp;done)|(simp;omega)|omega) (B) (z.trans (by rw[ay,ay])) sM sM _ _ d.g d.f.1) (fun _ _ d=>bY d (fun _ _ d=>tP 6 0 0 (nc (a*b)) d (fun _ d=>tN (kX (d.ret [(0,0,2)] (nv (a*b)) rfl)))))
theorem o3 (a b:Nat)(d:(wds a).length<=1000000000)(c:(wds b).length<=1000000000)(w:World)(h:Hp)(g:G w h):CV 106 #[nv a,nv b] w h (nv (a*b)):=by
 rcases eb a 18446744073709551616 with h1|h1
 ·rcases eb b 18446744073709551616 with h2|h2
  ·exact Gu a b d c h1 h2 w h g
  ·exact Hd a b d c h1 h2 w h g
 ·exact GC a b d c h1 w h g
theorem C5 (a b:Nat)(hb:0<b)(L:(wds a).length<=1000000000)(F:(wds b).length<=1000000000)(l:a<18446744073709551616)(f:b<18446744073709551616)(w:World)(h:Hp)(g:G w h):CV 135 #[nv a,nv b] w h (.tuple #[nv (a/b),nv (a%b),.bool true]):=by
 have d:=sS g;have J:=(cC hb).2.2;have K:=yr f;refine go Tryz.func135 [(0,nv a),(1,nv b)] rfl (aD (lA 2 25 (nc a) d (fun C w2 U d=>lA 3 25 (nc b) d (fun D S W d=>lA 4 25 ([uV 0,eS]) d (fun M Q V d=>lA 5 25 ([uV 0,eS]) d (fun O _ _ d=>lL d ac (af (aa d [.o (nv b) 2 0 2] (am 12 d (fg b F _ _ d.g) (fun _ _ d=>?_))))))))));have I:(((nb b:Nat):Int) == (0:Int))=false:=cD oM;have H:=ag I;refine lB 13 I (ah (cK (cQ (aa d [.v (qP C 1),.o (.string (hi a)) 3 1 1] (lV 18 qT ?_ (hr:=rb kR (jJ (em l))))))));refine lL d [.c,.v (qP D 1),.o (.string (hi b)) 2 1 1] (lV 22 qT ?_ (hr:=rb kR (jJ (em f))));refine lL d [.v qT] (au (cQ ?_));have z:=d;refine CJ 12 [] [M,O] mixed d aq (eV 0 24 (pB C) (eO 1 25 [(3,0,1)] (mV (a%18446744073709551616)) d (eV 2 26 (pB D) (eO 3 27 [(2,0,1)] (mV (b%18446744073709551616)) d (eV 4 28 (mV ((a%18446744073709551616)/(b%18446744073709551616))) ?_ (hv:=fun _=>be (dD (t:=23) (u:=23) (x:=.tmp 25) (y:=.tmp 27) (k:=.u64) (a:=((a%18446744073709551616:Nat):Int)) (b:=((b%18446744073709551616:Nat):Int)) kR kR kR oM _) (kO (a%18446744073709551616) (b%18446744073709551616) oM)))))));refine eV 5 29 (.agg #[mV ((a%18446744073709551616)/(b%18446744073709551616)),eS]) (eV 6 30 (pB C) (vf 7 31 [(3,0,1)] (mV (a%18446744073709551616)) z d ?_ (hM:=fun p B=>by obtain rfl:=ov.1 B;exact fun hm=>by rcases g1.1 hm with e|hm;exact fI d.st (i:=3) (j:=1) kR kR kR e;rcases g1.1 hm with e|hm;exact fI d.st (i:=3) (j:=0) kR kR kR e;cases hm)));refine eV 8 32 (pB D) (vf 9 33 [(2,0,1)] (mV (b%18446744073709551616)) z d ?_ (hM:=fun p B=>by obtain rfl:=ov.1 B;exact fun hm=>by rcases g1.1 hm with e|hm;exact fI d.st (i:=2) (j:=1) kR kR kR e;rcases g1.1 hm with e|hm;exact fI d.st (i:=2) (j:=0) kR kR kR e;cases hm));refine eV 10 34 (mV ((a%18446744073709551616)%(b%18446744073709551616))) ?_ (hv:=fun _=>be (fR (t:=23) (u:=23) (x:=.tmp 31) (y:=.tmp 33) (k:=.u64) (a:=((a%18446744073709551616:Nat):Int)) (b:=((b%18446744073709551616:Nat):Int)) kR kR kR oM _) (dx (a%18446744073709551616) (b%18446744073709551616)));refine eV 11 35 (.agg #[mV ((a%18446744073709551616)%(b%18446744073709551616)),eS]) (bY d (fun _ _ d=>tP 12 1 0 ([mV ((a%18446744073709551616)/(b%18446744073709551616)),eS]) d (fun _ d=>?_) (hz:=fK (JQ))));refine tP 13 0 0 ([mV ((a%18446744073709551616)%(b%18446744073709551616)),eS]) d (fun _ d=>?_) (hz:=fK (JR _<|JQ));exact tV 14 6 qT (tN (kX (d.ret [(1,0,2),(0,0,2)] (.tuple #[.agg #[mV ((a%18446744073709551616)/(b%18446744073709551616)),eS],.agg #[mV ((a%18446744073709551616)%(b%18446744073709551616)),eS],qT]) (by rw[yr l,yr f,iR (show a/b<18446744073709551616 by have:=yN a b;omega),iR (show a%b<18446744073709551616 by have:=ys a hb;omega)]))))
theorem F8 (a b:Nat)(hb:0<b)(K:(wds a).length<=1000000000)(M:(wds b).length<=1000000000)(Y:18446744073709551616<=a)(x:b<18446744073709551616)(w:World)(h:Hp)(g:G w h):CV 135 #[nv a,nv b] w h (.tuple #[nv (a/b),nv (a%b),.bool true]):=by
 have i:=sS g;have bd:=(cC hb).2.2;have bk:=yr x;have hcl:=fJ (show b<=a by omega);refine go Tryz.func135 [(0,nv a),(1,nv b)] rfl (aD (lA 2 25 (nc a) i (fun H w2 h3 i=>lA 3 25 (nc b) i (fun D w5 h6 i=>lA 4 25 ([uV 0,eS]) i (fun V w8 h9 i=>lA 5 25 ([uV 0,eS]) i (fun S _ _ i=>lL i ac (af (aa i [.o (nv b) 2 0 2] (am 12 i (fg b M _ _ i.g) (fun _ _ i=>?_))))))))));have zb:(((nb b:Nat):Int) == (0:Int))=false:=cD oM;have bb:=ag zb;refine lB 13 zb (ah (cK (cQ (aa i [.v (qP H 1),.o (.string (hi a)) 3 1 1] (lV 18 qF ?_ (hr:=rb kR (iF (eJ Y))))))));refine lL i ac (lG 20 ?_);refine lG 21 (lG 22 (lL i [.v qF] (ah (cK (cQ (aa i [.o (nv a) 3 0 2,.o (nv b) 2 0 2] (am 38 i (lf a b K M _ _ i.g) (fun zd _ i=>?_))))))));have ⟨zc,X⟩:=dF (p:=(bV a b:Int)<(0:Int)) oM;refine lB 39 zc (ah (cK (cQ (aa i [.v (qP D 1),.o (.string (hi b)) 2 1 1] (lV 44 qT ?_ (hr:=rb kR (jJ (em x))))))));refine au (cQ ?_);obtain ⟨C,hK_⟩:∃ C,C=zd.heap.size:=⟨_,rfl⟩;have U:S<C:=by rw[hK_];exact eE i 0
 have W:V<C:=by rw[hK_];exact eE i 1
 have B:D<C:=by rw[hK_];exact eE i 2
 have y:H<C:=by rw[hK_];exact eE i 3
 refine mq ⟨[],some (C,[])⟩ 0 mixed ?_;have bf:=i.g.size;replace i:=i.drew;have u:=JP hK_;refine zO 0 46 [(3,0,2)] (nv a) rfl u i (fun p Z=>by obtain rfl:=ov.1 Z;exact y) (zV 2 48 (pB D) (zO 3 49 [(2,0,1)] (mV (b%18446744073709551616)) rfl u i (fun p Z=>by obtain rfl:=ov.1 Z;exact B) (rC 1 47 (fC a oM oM _ _ i.g) rfl u ?_)));rintro _ _ _ u21 u ⟨j,rfl,L,J,bl⟩;obtain ⟨_,i,-,-⟩:=i.take u21 L J;replace i:=i.to [⟨j,23,(wds a).flatMap aj⟩,⟨S,25,[uV 0,eS]⟩,⟨V,25,[uV 0,eS]⟩,⟨D,25,nc b⟩,⟨H,25,nc a⟩] [];refine Jc 4 50 (G8 j (wds a) (wds a).length (b%18446744073709551616) oM oM (Wd.wds a) K (nR _) _ _ i.g (i.own 0) (i.jk 0)) rfl u oM ?_;rintro _ _ _ u25 u ⟨z,r,rfl,hzl,hWz,I,F,hOz⟩;replace i:=(i.stepM 0 u25 hOz).to [⟨j,23,(z).flatMap aj⟩,⟨S,25,[uV 0,eS]⟩,⟨V,25,[uV 0,eS]⟩,⟨D,25,nc b⟩,⟨H,25,nc a⟩] [];refine zV 5 45 (.tuple #[qS (sB j) (tl z z.length) ((wds a).length),mV r]) (zV 6 51 (qS (sB j) (tl z z.length) ((wds a).length)) (zV 7 52 (mV r) (zV 8 7 (qS (sB j) (tl z z.length) ((wds a).length)) (zV 9 8 (mV r) (xL ?_)))));have O:=yr x;rw[ay,O] at I
 rw[O] at F
 obtain ⟨hq1,hq2⟩:=BF I F;have htz:=iO z z.length;have hQ:aF (z.take (tl z z.length))=a/b:=by have e:=jA 18446744073709551616 z z.length (nR _);rw[yd] at e;exact e.trans hq1
 obtain ⟨_,i,Q,bn,bm⟩:=i.pub 0;replace i:=(i.to [⟨S,25,[uV 0,eS]⟩,⟨V,25,[uV 0,eS]⟩,⟨D,25,nc b⟩,⟨H,25,nc a⟩] []).aS (SlO.of_flat (sz:=1) (f:=aj) (d:=0) (b:=j) (o:=0) (l:=z) (fun _=>rfl) Q);exact lL i ac (am 54 i (cZ (sB j) ((wds a).length) (z.take (tl z z.length)) (tl z z.length) ((a/b)) (by first|rfl|assumption|(simp;done)|(simp;omega)|omega) (Dg.take hWz _) (hQ) sM sM _ _ i.g ((i.f.1).take _)) (fun _ _ i=>lL i [.c,.v (.agg #[mV r,eS])] (lP 1 0 (nc (a/b)) i (fun _ i=>lP 0 0 ([mV r,eS]) i (fun _ i=>lL i ac (ae i [(1,0,2),(0,0,2)] (.tuple #[nv (a/b),.agg #[mV r,eS],qT]) (by rw[hq2,iR (by have:=ys a hb;omega)])))))))
theorem Ge (a b:Nat)(hb:0<b)(i:(wds a).length<=1000000000)(j:(wds b).length<=1000000000)(e:b<=a)(C:18446744073709551616<=a)(d:18446744073709551616<=b)(w:World)(h:Hp)(g:G w h):CV 135 #[nv a,nv b] w h (.tuple #[nv (a/b),nv (a%b),.bool true]):=by
 have c:=sS g;have W:=(cC hb).2.2;have hcl:=fJ e;have hlm:=cJ e;have hl2:=cG d;refine go Tryz.func135 [(0,nv a),(1,nv b)] rfl (aD (lA 2 25 (nc a) c (fun b1 w2 h3 c=>lA 3 25 (nc b) c (fun b4 w5 h6 c=>lA 4 25 ([uV 0,eS]) c (fun b7 w8 h9 c=>lA 5 25 ([uV 0,eS]) c (fun b10 _ _ c=>lL c ac (af (aa c [.o (nv b) 2 0 2] (am 12 c (fg b j _ _ c.g) (fun _ _ c=>?_))))))))));have V:(((nb b:Nat):Int) == (0:Int))=false:=cD oM;have S:=ag V;refine lB 13 V (ah (cK (cQ (aa c [.v (qP b1 1),.o (.string (hi a)) 3 1 1] (lV 18 qF ?_ (hr:=rb kR (iF (eJ C))))))));refine lL c ac (lG 20 ?_);refine lG 21 (lG 22 (lL c [.v qF] (ah (cK (cQ (aa c [.o (nv a) 3 0 2,.o (nv b) 2 0 2] (am 38 c (lf a b i j _ _ c.g) (fun _ _ c=>?_))))))));have ⟨zb,B⟩:=dF (p:=(bV a b:Int)<(0:Int)) oM;refine lB 39 zb (ah (cK (cQ (aa c [.v (qP b4 1),.o (.string (hi b)) 2 1 1] (lV 44 qF ?_ (hr:=rb kR (iF (eJ d))))))));refine ah (cK (cQ (cR 8 [] mixed c aq ?_)));refine eO 0 58 [(3,0,2)] (nv a) c (eO 2 60 [(2,0,2)] (nv b) c (eC 1 59 c (fun _ _ c=>fN a oM _ _ c.g) ?_));rintro _ _ _ _ _ c ⟨z,K,rfl,Y,J⟩;replace c:=c.aS J;refine eC 3 61 c (fun _ _ c=>fN b oM _ _ c.g) ?_;rintro _ _ _ _ _ c ⟨D,O,rfl,X,Q⟩;replace c:=c.aS Q;refine eC 4 62 c (fun _ _ c=>Ej z K (wds a) D O (wds b) (Wd.wds a) (Wd.wds b) i oM oM (kL hb) _ _ c.g c.f.2.1 c.f.1) ?_;rintro _ _ _ _ _ c ⟨u,l,q,x,y,r,rfl,hcq,Z,L,I,F,H,hlq,hlr,M,U⟩;replace c:=c.aP M U;exact eV 5 57 (.tuple #[qS u q.length l,qS x r.length y]) (eV 6 63 (qS u q.length l) (eV 7 64 (qS x r.length y) (bY c (fun _ _ c=>tV 8 9 (qS u q.length l) (tV 9 10 (qS x r.length y) (xL (lL c ac (am 66 c (cZ u l (q) q.length ((a/b)) (by first|rfl|assumption|(simp;done)|(simp;omega)|omega) (L) (F.trans (by rw[ay,ay])) sM sM _ _ c.g c.f.2.1) (fun _ _ c=>lL c ac (am 68 c (cZ x y (r) r.length ((a%b)) (by first|rfl|assumption|(simp;done)|(simp;omega)|omega) (I) (H.trans (by rw[ay,ay])) sM sM _ _ c.g c.f.1) (fun _ _ c=>lP 1 0 (nc (a/b)) c (fun _ c=>lP 0 0 (nc (a%b)) c (fun _ c=>lL c ac (ae c [(1,0,2),(0,0,2)] (.tuple #[nv (a/b),nv (a%b),qT]) rfl))))))))))))))
theorem Fy (a b:Nat)(hb:0<b)(z:(wds a).length<=1000000000)(l:(wds b).length<=1000000000)(f:a<b)(x:a<18446744073709551616)(y:18446744073709551616<=b)(w:World)(h:Hp)(g:G w h):CV 135 #[nv a,nv b] w h (.tuple #[nv (a/b),nv (a%b),.bool true]):=by
 have d:=sS g;have F:=(cC hb).2.2;have K:=dw f;refine go Tryz.func135 [(0,nv a),(1,nv b)] rfl (aD (lA 2 25 (nc a) d (fun I w2 U d=>lA 3 25 (nc b) d (fun J S W d=>lA 4 25 ([uV 0,eS]) d (fun L Q V d=>lA 5 25 ([uV 0,eS]) d (fun O _ _ d=>lL d ac (af (aa d [.o (nv b) 2 0 2] (am 12 d (fg b l _ _ d.g) (fun _ _ d=>?_))))))))));have D:(((nb b:Nat):Int) == (0:Int))=false:=cD oM;have C:=ag D;refine lB 13 D (ah (cK (cQ (aa d [.v (qP I 1),.o (.string (hi a)) 3 1 1] (lV 18 qT ?_ (hr:=rb kR (jJ (em x))))))));refine lL d [.c,.v (qP J 1),.o (.string (hi b)) 2 1 1] (lV 22 qF ?_ (hr:=rb kR (iF (eJ y))));refine lL d [.v qF] (ah (cK (cQ (aa d [.o (nv a) 3 0 2,.o (nv b) 2 0 2] (am 38 d (lf a b z l _ _ d.g) (fun _ _ d=>?_))))));have ⟨M,u⟩:=dT (p:=(bV a b:Int)<(0:Int)) oM;refine lB 39 M (au (cQ ?_));have B:=d;refine CJ 2 [] [L,O] mixed d aq (eV 0 40 (.agg #[uV 0,eS]) (vf 1 41 [(3,0,2)] (nv a) B d ?_ (hM:=fun p H=>by obtain rfl:=ov.1 H;exact fun hm=>by rcases g1.1 hm with e|hm;exact fI d.st (i:=3) (j:=1) kR kR kR e;rcases g1.1 hm with e|hm;exact fI d.st (i:=3) (j:=0) kR kR kR e;cases hm)));refine bY d (fun _ _ d=>tP 2 1 0 ([uV 0,eS]) d (fun _ d=>?_) (hz:=fK (JQ)));refine tP 3 0 0 (nc a) d (fun _ d=>?_) (hz:=fK (JR _<|JQ));exact tV 4 6 qT (tN (kX (d.ret [(1,0,2),(0,0,2)] (.tuple #[.agg #[uV 0,eS],nv a,qT]) (by have f:a<b:=(by rcases eb a b with h_|h_;exact h_;rcases fJ h_ with e|e<;>omega);rw[yQ f,yr f];rfl))))
theorem GJ (a b:Nat)(hb:0<b)(x:(wds a).length<=1000000000)(f:(wds b).length<=1000000000)(d:a<b)(u:18446744073709551616<=a)(w:World)(h:Hp)(g:G w h):CV 135 #[nv a,nv b] w h (.tuple #[nv (a/b),nv (a%b),.bool true]):=by
 have c:=sS g;have C:=(cC hb).2.2;have H:=dw d;refine go Tryz.func135 [(0,nv a),(1,nv b)] rfl (aD (lA 2 25 (nc a) c (fun F w2 Q c=>lA 3 25 (nc b) c (fun O M U c=>lA 4 25 ([uV 0,eS]) c (fun I L S c=>lA 5 25 ([uV 0,eS]) c (fun K _ _ c=>lL c ac (af (aa c [.o (nv b) 2 0 2] (am 12 c (fg b f _ _ c.g) (fun _ _ c=>?_))))))))));have B:(((nb b:Nat):Int) == (0:Int))=false:=cD oM;have z:=ag B;refine lB 13 B (ah (cK (cQ (aa c [.v (qP F 1),.o (.string (hi a)) 3 1 1] (lV 18 qF ?_ (hr:=rb kR (iF (eJ u))))))));refine lL c ac (lG 20 ?_);refine lG 21 (lG 22 (lL c [.v qF] (ah (cK (cQ (aa c [.o (nv a) 3 0 2,.o (nv b) 2 0 2] (am 38 c (lf a b x f _ _ c.g) (fun _ _ c=>?_))))))));have ⟨J,l⟩:=dT (p:=(bV a b:Int)<(0:Int)) oM;refine lB 39 J (au (cQ ?_));have y:=c;refine CJ 2 [] [I,K] mixed c aq (eV 0 40 (.agg #[uV 0,eS]) (vf 1 41 [(3,0,2)] (nv a) y c ?_ (hM:=fun p D=>by obtain rfl:=ov.1 D;exact fun hm=>by rcases g1.1 hm with e|hm;exact fI c.st (i:=3) (j:=1) kR kR kR e;rcases g1.1 hm with e|hm;exact fI c.st (i:=3) (j:=0) kR kR kR e;cases hm)));refine bY c (fun _ _ c=>tP 2 1 0 ([uV 0,eS]) c (fun _ c=>?_) (hz:=fK (JQ)));refine tP 3 0 0 (nc a) c (fun _ c=>?_) (hz:=fK (JR _<|JQ));exact tV 4 6 qT (tN (kX (c.ret [(1,0,2),(0,0,2)] (.tuple #[.agg #[uV 0,eS],nv a,qT]) (by have d:a<b:=(by rcases eb a b with h_|h_;exact h_;rcases fJ h_ with e|e<;>omega);rw[yQ d,yr d];rfl))))
theorem Gf (a b:Nat)(hb:0<b)(d:(wds a).length<=1000000000)(c:(wds b).length<=1000000000)(w:World)(h:Hp)(g:G w h):CV 135 #[nv a,nv b] w h (.tuple #[nv (a/b),nv (a%b),.bool true]):=by
 rcases eb a b with hab|hab
 ·rcases eb a 18446744073709551616 with h1|h1
  ·rcases eb b 18446744073709551616 with h2|h2
   ·exact C5 a b hb d c h1 h2 w h g
   ·exact Fy a b hb d c hab h1 h2 w h g
  ·exact GJ a b hb d c hab h1 w h g
 ·rcases eb b 18446744073709551616 with h2|h2
  ·rcases eb a 18446744073709551616 with h1|h1
   ·exact C5 a b hb d c h1 h2 w h g
   ·exact F8 a b hb d c h1 h2 w h g
  ·exact Ge a b hb d c hab oM h2 w h g
theorem jW {z:Int}{b:Bool}{n:Nat}(hb:aw z=b)(a:ab z=n):Value.agg #[.bool b,.int .u64 (lo n),.string (hi n)]=iv z:=by subst hb a;rfl
theorem jd {z:Int}{b:Bool}(hb:aw z=b):iv z=Value.agg #[.bool b,.int .u64 (lo (ab z)),.string (hi (ab z))]:=(jW hb rfl).symm
theorem ol (x y:Int):cF (aw x != aw y) (ab x*ab y)=x*y:=by
 rcases hx:aw x with _|_<;>rcases hy:aw y with _|_
 ·have h1:=bw hx
  have c:=bw hy;obtain ⟨a,rfl⟩:=JS h1;obtain ⟨b,rfl⟩:=JS c
  simp[cF,ab,JT,JU,JV]
 ·have h1:=bw hx
  have c:=bE hy;obtain ⟨a,rfl⟩:=JS h1;obtain ⟨b,hb⟩:=JS (a:=-y) oM;obtain rfl:y = -b:=by omega
  simp[cF,ab,JT,JU,JV]
 ·have h1:=bE hx
  have c:=bw hy;obtain ⟨b,rfl⟩:=JS c;obtain ⟨a,ha⟩:=JS (a:=-x) oM;obtain rfl:x = -a:=by omega
  simp[cF,ab,JT,JU,JV]
 ·have h1:=bE hx
  have c:=bE hy;obtain ⟨a,ha⟩:=JS (a:=-x) oM;obtain ⟨b,hb⟩:=JS (a:=-y) oM;obtain rfl:x = -a:=by omega
  obtain rfl:y = -b:=by omega
  simp[cF,ab,JT,JU,JV]
theorem j5 {a b:Nat}:(wds (a+b)).length<=(wds a).length+(wds b).length+1:=by
 refine fw kD ?_;have h1:=cY a;have e:=cY b;have d:18446744073709551616^(wds a).length<=18446744073709551616^((wds a).length+(wds b).length):=y6 kD oM;have c:18446744073709551616^(wds b).length<=18446744073709551616^((wds a).length+(wds b).length):=y6 kD oM;rw[yS]
 omega
theorem pQ {a b k:Nat}(ha:(wds a).length<=k)(hb:(wds b).length<=k):(wds (a+b)).length<=k+1:=by
 refine fw kD ?_;have h1:=cY a;have e:=cY b;have c:18446744073709551616^(wds a).length<=18446744073709551616^k:=y6 kD ha;have d:18446744073709551616^(wds b).length<=18446744073709551616^k:=y6 kD hb;rw[yS]
 omega
theorem cX {a b:Nat}:(wds (a*b)).length<=(wds a).length+(wds b).length:=by
 refine fw kD ?_;rw[y8];have h1:=cY a;have c:=cY b;exact ey (Nat.mul_lt_mul'' h1 c) (Nat.le_refl _)
theorem aA {a b k:Nat}(h:a<=b)(hb:(wds b).length<=k):(wds a).length<=k:=eu (cJ h) hb
theorem wi (a:Nat)(w:World)(h:Hp)(g:G w h):CV 37 #[.bool false,nv a] w h (iv (cF false a)):=by
 have b:=sS g;refine go Tryz.func37 [(0,qF),(1,nv a)] rfl (aD (lA 3 25 (nc a) b (fun d w2 i b=>lA 4 27 ([qF,uV 0,eS]) b (fun j e f b=>af (cR 8 [] mixed b aq ?_)))));exact eV 0 5 qF (eV 1 6 qF (eG 2 7 (eG 3 8 (eG 4 9 (eV 5 10 qF (eO 6 11 [(1,0,2)] (nv a) b (eV 7 12 (wX qF a) (bY b (fun l o b=>tP 8 0 0 (wC qF a) b (fun c b=>tN (kX (b.ret [(0,0,3)] (wX qF a) (jW (by rw[jp];rfl) (eD _ _))))))))))))))
theorem Ea (c:(wds 0).length<=1000000000)(w:World)(h:Hp)(g:G w h):CV 37 #[.bool true,nv 0] w h (iv (cF true 0)):=by
 have a:=sS g;have b:nb 0=0:=rfl;refine go Tryz.func37 [(0,qT),(1,nv 0)] rfl (aD (lA 3 25 (nc 0) a (fun f w2 l a=>lA 4 27 ([qF,uV 0,eS]) a (fun o i j a=>af (cR 8 [] mixed a aq ?_)))));refine eV 0 5 qT (eV 1 6 qT (eO 2 7 [(1,0,2)] (nv 0) a (eO 6 11 [(1,0,2)] (nv 0) a (ai 3 8 a (fun _ _ a=>fg 0 aM _ _ a.g) (fun p u a=>eV 4 9 qF ?_ (hv:=fun _=>rb (e:=decide ((0:Int)<((nb 0:Nat):Int))) kR (decide_eq_false oM)))))));exact eV 5 10 qF (eV 7 12 (wX qF 0) (bY a (fun d _ a=>tP 8 0 0 (wC qF 0) a (fun _ a=>tN (kX (a.ret [(0,0,3)] (wX qF 0) (jW (by rw[jp];rfl) (eD _ _))))))))
theorem Fa (a:Nat)(ha:0<a)(d:(wds a).length<=1000000000)(w:World)(h:Hp)(g:G w h):CV 37 #[.bool true,nv a] w h (iv (cF true a)):=by
 have b:=sS g;have c:=(cC ha).2.2;refine go Tryz.func37 [(0,qT),(1,nv a)] rfl (aD (lA 3 25 (nc a) b (fun i w2 o b=>lA 4 27 ([qF,uV 0,eS]) b (fun p j l b=>af (cR 8 [] mixed b aq ?_)))));refine eV 0 5 qT (eV 1 6 qT (eO 2 7 [(1,0,2)] (nv a) b (eO 6 11 [(1,0,2)] (nv a) b (ai 3 8 b (fun _ _ b=>fg a aM _ _ b.g) (fun u x b=>eV 4 9 qT ?_ (hv:=fun _=>rb (e:=decide ((0:Int)<((nb a:Nat):Int))) kR (decide_eq_true oM)))))));exact eV 5 10 qT (eV 7 12 (wX qT a) (bY b (fun f _ b=>tP 8 0 0 (wC qT a) b (fun _ b=>tN (kX (b.ret [(0,0,3)] (wX qT a) (jW (by rw[jp];simpa using ha) (eD _ _))))))))
theorem fh (b:Bool)(a:Nat)(c:(wds a).length<=1000000000)(w:World)(h:Hp)(g:G w h):CV 37 #[.bool b,nv a] w h (iv (cF b a)):=by
 cases b
 ·exact wi a w h g
 ·rcases yA a with h0|h0
  ·subst h0;exact Ea c w h g
  ·exact Fa a h0 c w h g
theorem If (z:Int)(h0 : -9223372036854775808<=z)(hz:z<0)(w:World)(h:Hp)(g:G w h):CV 55 #[iV z] w h (iv z):=by
 have a:=sS g;have d:ab z<=9223372036854775808:=by unfold ab;omega
 refine go Tryz.func55 [(0,iV z)] rfl (aD (lA 2 27 ([qF,uV 0,eS]) a (fun e w2 j a=>af (aa a ac ?_))));have ⟨b,c⟩:=dT (p:=(z:Int)<(0:Int)) oM;refine lB 4 b (au (aa a ac (lV 6 (mV (18446744073709551616-ab z)) ?_ (hr:=rU (z) kR (by rw[IntKind.wrap_u64];unfold ab;omega)))));refine lV 7 (mV (ab z)) ?_ (hr:=rU ((0-((18446744073709551616-ab z:Nat):Int))) kR (by rw[IntKind.wrap_u64];omega));exact am 8 a (HF (ab z) oM _ _ a.g) (fun f i a=>lL a [.v (wX qT (ab z))] (lP 0 0 (wC qT (ab z)) a (fun l a=>ae a [(0,0,3)] (wX qT (ab z)) (jW (by simp[aw,hz]) rfl))))
theorem IX (n:Nat)(h1:n<9223372036854775808)(w:World)(h:Hp)(g:G w h):CV 55 #[nV n] w h (iv (n:Int)):=by
 have a:=sS g;refine go Tryz.func55 [(0,nV n)] rfl (aD (lA 2 27 ([qF,uV 0,eS]) a (fun d w2 i a=>af (aa a ac ?_))));have ⟨b,c⟩:=dF (p:=(n:Int)<(0:Int)) oM;refine lB 4 b (ah (cK (aa a ac (lV 11 (mV n) ?_ (hr:=rU ((n:Int)) kR (bM oM oM))))));exact am 12 a (HF n oM _ _ a.g) (fun e f a=>lL a [.v (wX qF n)] (lP 0 0 (wC qF n) a (fun j a=>ae a [(0,0,3)] (wX qF n) (jW (by simp[aw]) (by simp[ab])))))
theorem Jn (z:Int)(h0 : -9223372036854775808<=z)(h1:z<=9223372036854775807)(w:World)(h:Hp)(g:G w h):CV 55 #[iV z] w h (iv z):=by
 rcases Int.lt_or_le z 0 with hz|hz
 ·exact If z h0 hz w h g
 ·obtain ⟨n,rfl⟩:=JS hz
  exact IX n oM w h g
def ee(x y:Int):Int:=if x<y then -1 else if y<x then 1 else 0
theorem Cj {x y:Int}(h:x<y):ee x y = -1:=by simp[ee,h]
theorem AT {x y:Int}(h:y<x):ee x y=1:=by unfold ee;rw[if_neg oM,if_pos h]
theorem BC {x y:Int}(a:0<=x)(b:0<=y):ee x y=bV (ab x) (ab y):=by
 unfold ee bV ab
 have e1:(x<y)=(x.natAbs<y.natAbs):=by apply propext;omega
 have e2:(y<x)=(y.natAbs<x.natAbs):=by apply propext;omega
 simp only[e1,e2]
theorem B3 {x y:Int}(a:x<0)(b:y<0):ee x y=bV (ab y) (ab x):=by
 unfold ee bV ab
 have e1:(x<y)=(y.natAbs<x.natAbs):=by apply propext;omega
 have e2:(y<x)=(x.natAbs<y.natAbs):=by apply propext;omega
 simp only[e1,e2]
theorem tH (z:Int)(w:World)(h:Hp)(g:G w h):CV 74 #[iv z] w h (nv (ab z)):=by
 have a:=sS g;exact go Tryz.func74 [(0,iv z)] rfl (aD (lA 1 27 (ic z) a (fun b w2 e a=>lA 2 25 ([uV 0,eS]) a (fun f c d a=>aR (lL a [.v (qP b 1),.o (nv (ab z)) 1 1 2] (lP 0 0 (nc (ab z)) a (fun i a=>ae a [(0,0,2)] (nv (ab z)) rfl)))))))
theorem ER (z:Int)(hz:aw z=true)(w:World)(h:Hp)(g:G w h):CV 26 #[wX (.bool true) (ab z)] w h (iV z.sign):=by
 have a:=sS g;exact go Tryz.func26 [(0,wX qT (ab z))] rfl (aD (lA 1 27 (wC qT (ab z)) a (fun b w2 d a=>lL a ac (af (kZ (aa a [.v (pB b),.o qT 0 0 1,.c] (au (aa a ac (ae a [] (iV (-1)) (by rw[JW (bE hz)]))))))))))
theorem Fb (z:Int)(i:(wds (ab z)).length<=1000000000)(hz:aw z=false)(h0:0<ab z)(w:World)(h:Hp)(g:G w h):CV 26 #[wX (.bool false) (ab z)] w h (iV z.sign):=by
 have a:=sS g;have f:=(cC h0).2.2;refine go Tryz.func26 [(0,wX qF (ab z))] rfl (aD (lA 1 27 (wC qF (ab z)) a (fun e w2 l a=>lL a ac (af (kZ (aa a [.v (pB e),.o qF 0 0 1,.c] (ah (aa a [.v (qP e 1),.o (nv (ab z)) 0 1 2] (am 9 a (fg (ab z) aM _ _ a.g) (fun w4 j a=>?_))))))))));have ⟨b,d⟩:=dT (p:=(0:Int)<((nb (ab z):Nat):Int)) oM;exact lB 10 b (lL a ac (au (aa a ac (ae a [] (iV 1) (by rw[JX (by have:=bw hz;unfold ab at h0;omega)])))))
theorem Em (i:(wds (ab 0)).length<=1000000000)(w:World)(h:Hp)(g:G w h):CV 26 #[wX (.bool false) (ab 0)] w h (iV 0):=by
 have a:=sS g;have f:nb (ab 0)=0:=rfl;refine go Tryz.func26 [(0,wX qF (ab 0))] rfl (aD (lA 1 27 (wC qF (ab 0)) a (fun e w2 l a=>lL a ac (af (kZ (aa a [.v (pB e),.o qF 0 0 1,.c] (ah (aa a [.v (qP e 1),.o (nv (ab 0)) 0 1 2] (am 9 a (fg (ab 0) aM _ _ a.g) (fun w4 j a=>?_))))))))));have ⟨b,d⟩:=dF (p:=(0:Int)<((nb (ab 0):Nat):Int)) oM;exact lB 10 b (lL a ac (ah (cK (aa a ac (ae a [] (iV 0) rfl)))))
theorem lk (z:Int)(a:(wds (ab z)).length<=1000000000)(w:World)(h:Hp)(g:G w h):CV 26 #[iv z] w h (iV z.sign):=by
 rcases hz:aw z with _|_
 ·rw[jd hz]
  rcases yA (ab z) with h0|h0
  ·have:z=0:=by unfold ab at h0;omega
   subst this;exact Em a w h g
  ·exact Fb z a hz h0 w h g
 ·rw[jd hz];exact ER z hz w h g
theorem G6 (z:Int)(c:(wds (ab z)).length<=1000000000)(hz:aw z=false)(w:World)(h:Hp)(g:G w h):CV 72 #[wX (.bool false) (ab z)] w h (iv (-z)):=by
 have a:=sS g;exact go Tryz.func72 [(0,wX qF (ab z))] rfl (aD (lA 1 27 (wC qF (ab z)) a (fun b w2 j a=>lA 2 27 ([qF,uV 0,eS]) a (fun l f i a=>aR (lL a [.v (pB b),.o qF 1 0 1,.v qT,.v (qP b 1),.o (nv (ab z)) 1 1 2] (am 8 a (fh true (ab z) aM _ _ a.g) (fun p u a=>lP 0 0 (ic (cF true (ab z))) a (fun d a=>ae a [(0,0,3)] (iv (cF true (ab z))) (by have e:=se z;rw[hz] at e;exact congrArg iv e)))))))))
theorem FP (z:Int)(c:(wds (ab z)).length<=1000000000)(hz:aw z=true)(w:World)(h:Hp)(g:G w h):CV 72 #[wX (.bool true) (ab z)] w h (iv (-z)):=by
 have a:=sS g;exact go Tryz.func72 [(0,wX qT (ab z))] rfl (aD (lA 1 27 (wC qT (ab z)) a (fun b w2 j a=>lA 2 27 ([qF,uV 0,eS]) a (fun l f i a=>aR (lL a [.v (pB b),.o qT 1 0 1,.v qF,.v (qP b 1),.o (nv (ab z)) 1 1 2] (am 8 a (fh false (ab z) aM _ _ a.g) (fun p u a=>lP 0 0 (ic (cF false (ab z))) a (fun d a=>ae a [(0,0,3)] (iv (cF false (ab z))) (by have e:=se z;rw[hz] at e;exact congrArg iv e)))))))))
theorem Hi (z:Int)(a:(wds (ab z)).length<=1000000000)(w:World)(h:Hp)(g:G w h):CV 72 #[iv z] w h (iv (-z)):=by
 rcases hz:aw z with _|_<;>rw[jd hz]
 ·exact G6 z a hz w h g
 ·exact FP z a hz w h g
theorem DB (x y:Int)(f:(wds (ab x)).length<=1000000000)(i:(wds (ab y)).length<=1000000000)(e:aw x=false)(j:aw y=false)(w:World)(h:Hp)(g:G w h):CV 30 #[wX (.bool false) (ab x),wX (.bool false) (ab y)] w h (iV (ee x y)):=by
 have a:=sS g;refine go Tryz.func30 [(0,wX qF (ab x)),(1,wX qF (ab y))] rfl (aD (lA 2 27 (wC qF (ab x)) a (fun b w2 u a=>lA 3 27 (wC qF (ab y)) a (fun d l p a=>lL a ac (af (kZ (aa a [.v (pB b),.o qF 1 0 1,.c] (lG 9 ?_))))))));exact lG 10 (lL a [.v qF,.c] (ah (aa a [.v (pB b),.o qF 1 0 1,.c] (ah (aa a [.v (pB d),.o qF 0 0 1,.c] (ah (cK (aa a [.v (qP b 1),.o (nv (ab x)) 1 1 2,.v (qP d 1),.o (nv (ab y)) 0 1 2] (am 27 a (lf (ab x) (ab y) aM aM _ _ a.g) (fun B z a=>lL a ac (ae a [] (iV (bV (ab x) (ab y))) (by rw[BC (bw e) (bw j)]))))))))))))
theorem Fn (x y:Int)(e:(wds (ab x)).length<=1000000000)(f:(wds (ab y)).length<=1000000000)(d:aw x=false)(i:aw y=true)(w:World)(h:Hp)(g:G w h):CV 30 #[wX (.bool false) (ab x),wX (.bool true) (ab y)] w h (iV (ee x y)):=by
 have a:=sS g;refine go Tryz.func30 [(0,wX qF (ab x)),(1,wX qT (ab y))] rfl (aD (lA 2 27 (wC qF (ab x)) a (fun b w2 p a=>lA 3 27 (wC qT (ab y)) a (fun j l u a=>lL a ac (af (kZ (aa a [.v (pB b),.o qF 1 0 1,.c] (lG 9 ?_))))))));exact lG 10 (lL a [.v qF,.c] (ah (aa a [.v (pB b),.o qF 1 0 1,.c] (ah (aa a [.v (pB j),.o qT 0 0 1,.c] (au (aa a ac (ae a [] (iV 1) (by rw[AT (by have:=bw d;have:=bE i;omega)])))))))))
theorem Eb (x y:Int)(e:(wds (ab x)).length<=1000000000)(f:(wds (ab y)).length<=1000000000)(d:aw x=true)(i:aw y=false)(w:World)(h:Hp)(g:G w h):CV 30 #[wX (.bool true) (ab x),wX (.bool false) (ab y)] w h (iV (ee x y)):=by
 have a:=sS g;exact go Tryz.func30 [(0,wX qT (ab x)),(1,wX qF (ab y))] rfl (aD (lA 2 27 (wC qT (ab x)) a (fun b w2 p a=>lA 3 27 (wC qF (ab y)) a (fun j l u a=>lL a ac (af (kZ (aa a [.v (pB b),.o qT 1 0 1,.c,.v (pB j),.o qF 0 0 1,.v qF,.c] (ah (aa a [.v (pB b),.o qT 1 0 1,.c] (au (aa a ac (ae a [] (iV (-1)) (by rw[Cj (by have:=bE d;have:=bw i;omega)])))))))))))))
theorem EX (x y:Int)(f:(wds (ab x)).length<=1000000000)(i:(wds (ab y)).length<=1000000000)(e:aw x=true)(j:aw y=true)(w:World)(h:Hp)(g:G w h):CV 30 #[wX (.bool true) (ab x),wX (.bool true) (ab y)] w h (iV (ee x y)):=by
 have a:=sS g;exact go Tryz.func30 [(0,wX qT (ab x)),(1,wX qT (ab y))] rfl (aD (lA 2 27 (wC qT (ab x)) a (fun b w2 u a=>lA 3 27 (wC qT (ab y)) a (fun d l p a=>lL a ac (af (kZ (aa a [.v (pB b),.o qT 1 0 1,.c,.v (pB d),.o qT 0 0 1,.v qT,.c] (au (aa a [.v (qP d 1),.o (nv (ab y)) 0 1 2,.v (qP b 1),.o (nv (ab x)) 1 1 2] (am 16 a (lf (ab y) (ab x) aM aM _ _ a.g) (fun B z a=>lL a ac (ae a [] (iV (bV (ab y) (ab x))) (by rw[B3 (bE e) (bE j)])))))))))))))
theorem vM (x y:Int)(a:(wds (ab x)).length<=1000000000)(b:(wds (ab y)).length<=1000000000)(w:World)(h:Hp)(g:G w h):CV 30 #[iv x,iv y] w h (iV (ee x y)):=by
 rcases hx:aw x with _|_<;>rcases hy:aw y with _|_<;>rw[jd hx,jd hy]
 ·exact DB x y a b hx hy w h g
 ·exact Fn x y a b hx hy w h g
 ·exact Eb x y a b hx hy w h g
 ·exact EX x y a b hx hy w h g
theorem ED (x y:Int)(d:(wds (ab x)).length<=1000000000)(e:(wds (ab y)).length<=1000000000)(p:(wds (ab x+ab y)).length<=1000000000)(j:aw x=false)(f:aw y=false)(w:World)(h:Hp)(g:G w h):CV 131 #[wX (.bool false) (ab x),wX (.bool false) (ab y)] w h (iv (x+y)):=by
 have a:=sS g;have l:=bw j;have i:=bw f;refine go Tryz.func131 [(0,wX qF (ab x)),(1,wX qF (ab y))] rfl (aD (lA 2 27 (wC qF (ab x)) a (fun b w2 B a=>lA 3 27 (wC qF (ab y)) a (fun c z F a=>lA 4 27 ([qF,uV 0,eS]) a (fun C u D a=>af (aa a [.v (pB b),.o qF 2 0 1,.v (pB c),.o qF 1 0 1,.v qT] (au (cQ (cR 8 [] mixed a aq ?_)))))))));exact eV 0 14 (pB b) (eO 1 15 [(2,0,1)] qF a (eV 2 16 (qP b 1) (eO 3 17 [(2,1,2)] (nv (ab x)) a (eV 4 18 (qP c 1) (eO 5 19 [(1,1,2)] (nv (ab y)) a (ai 6 20 a (fun _ _ a=>FT (ab x) (ab y) aM aM _ _ a.g) (fun _ _ a=>ai 7 21 a (fun _ _ a=>fh false ((ab x)+(ab y)) (by first|assumption|exact aA (JY _ _) aM) _ _ a.g) (fun _ _ a=>bY a (fun _ _ a=>tP 8 0 0 (ic (cF false ((ab x)+(ab y)))) a (fun _ a=>tN (kX (a.ret [(0,0,3)] (iv (cF false ((ab x)+(ab y)))) (congrArg iv (by unfold cF ab at *;simp;omega))))))))))))))
theorem BS (x y:Int)(e:(wds (ab x)).length<=1000000000)(f:(wds (ab y)).length<=1000000000)(B:(wds (ab x+ab y)).length<=1000000000)(u:aw x=false)(i:aw y=true)(l:ab y<=ab x)(w:World)(h:Hp)(g:G w h):CV 131 #[wX (.bool false) (ab x),wX (.bool true) (ab y)] w h (iv (x+y)):=by
 have a:=sS g;have z:=bw u;have j:=bE i;exact go Tryz.func131 [(0,wX qF (ab x)),(1,wX qT (ab y))] rfl (aD (lA 2 27 (wC qF (ab x)) a (fun b w2 F a=>lA 3 27 (wC qT (ab y)) a (fun d D J a=>lA 4 27 ([qF,uV 0,eS]) a (fun H C I a=>af (aa a [.v (pB b),.o qF 2 0 1,.v (pB d),.o qT 1 0 1,.v qF] (ah (cK (cQ (aa a [.v (qP b 1),.o (nv (ab x)) 2 1 2,.v (qP d 1),.o (nv (ab y)) 1 1 2] (am 27 a (B7 (ab x) (ab y) oM aM aM _ _ a.g) (fun _ _ a=>lL a [.c,.v (nv ((ab x)-(ab y))),.v qT] (lA 5 25 ([uV 0,eS]) a (fun p _ _ a=>lP 0 0 (nc ((ab x)-(ab y))) a (fun _ a=>lL a ac (aR (lL a ac (au (aa a [.v (pB b),.o qF 3 0 1,.o (nv ((ab x)-(ab y))) 0 0 2] (am 34 a (fh false ((ab x)-(ab y)) (by first|assumption|exact aA (JY _ _) aM) _ _ a.g) (fun _ _ a=>lP 1 0 (ic (cF false ((ab x)-(ab y)))) a (fun _ a=>ae a [(1,0,3)] (iv (cF false ((ab x)-(ab y)))) (congrArg iv (by unfold cF ab at *;simp;omega))))))))))))))))))))))))
theorem Ai (x y:Int)(e:(wds (ab x)).length<=1000000000)(f:(wds (ab y)).length<=1000000000)(z:(wds (ab x+ab y)).length<=1000000000)(p:aw x=false)(i:aw y=true)(C:ab x<ab y)(w:World)(h:Hp)(g:G w h):CV 131 #[wX (.bool false) (ab x),wX (.bool true) (ab y)] w h (iv (x+y)):=by
 have a:=sS g;have u:=bw p;have j:=bE i;exact go Tryz.func131 [(0,wX qF (ab x)),(1,wX qT (ab y))] rfl (aD (lA 2 27 (wC qF (ab x)) a (fun d w2 H a=>lA 3 27 (wC qT (ab y)) a (fun b F K a=>lA 4 27 ([qF,uV 0,eS]) a (fun I D J a=>af (aa a [.v (pB d),.o qF 2 0 1,.v (pB b),.o qT 1 0 1,.v qF] (ah (cK (cQ (aa a [.v (qP d 1),.o (nv (ab x)) 2 1 2,.v (qP b 1),.o (nv (ab y)) 1 1 2] (am 27 a (CU (ab x) (ab y) oM aM aM _ _ a.g) (fun _ _ a=>lL a [.c,.v (nv 0),.v qF] (lA 5 25 ([uV 0,eS]) a (fun l _ _ a=>lP 0 0 (nc 0) a (fun _ a=>lL a ac (aR (lL a ac (ah (cK (aa a [.v (qP b 1),.o (nv (ab y)) 2 1 2,.v (qP d 1),.o (nv (ab x)) 3 1 2] (am 40 a (B7 (ab y) (ab x) oM aM aM _ _ a.g) (fun _ _ a=>lL a [.c,.v (nv ((ab y)-(ab x))),.v qT] (lA 7 25 ([uV 0,eS]) a (fun B _ _ a=>lP 0 0 (nc ((ab y)-(ab x))) a (fun _ a=>lL a ac (aR (lL a [.v (pB b),.o qT 3 0 1,.o (nv ((ab y)-(ab x))) 0 0 2] (am 46 a (fh true ((ab y)-(ab x)) (by first|assumption|exact aA (JY _ _) aM) _ _ a.g) (fun _ _ a=>lP 2 0 (ic (cF true ((ab y)-(ab x)))) a (fun _ a=>ae a [(2,0,3)] (iv (cF true ((ab y)-(ab x)))) (congrArg iv (by unfold cF ab at *;simp;omega))))))))))))))))))))))))))))))))
theorem Bj (x y:Int)(e:(wds (ab x)).length<=1000000000)(f:(wds (ab y)).length<=1000000000)(B:(wds (ab x+ab y)).length<=1000000000)(u:aw x=true)(i:aw y=false)(l:ab y<=ab x)(w:World)(h:Hp)(g:G w h):CV 131 #[wX (.bool true) (ab x),wX (.bool false) (ab y)] w h (iv (x+y)):=by
 have a:=sS g;have z:=bE u;have j:=bw i;exact go Tryz.func131 [(0,wX qT (ab x)),(1,wX qF (ab y))] rfl (aD (lA 2 27 (wC qT (ab x)) a (fun b w2 F a=>lA 3 27 (wC qF (ab y)) a (fun d D J a=>lA 4 27 ([qF,uV 0,eS]) a (fun H C I a=>af (aa a [.v (pB b),.o qT 2 0 1,.v (pB d),.o qF 1 0 1,.v qF] (ah (cK (cQ (aa a [.v (qP b 1),.o (nv (ab x)) 2 1 2,.v (qP d 1),.o (nv (ab y)) 1 1 2] (am 27 a (B7 (ab x) (ab y) oM aM aM _ _ a.g) (fun _ _ a=>lL a [.c,.v (nv ((ab x)-(ab y))),.v qT] (lA 5 25 ([uV 0,eS]) a (fun p _ _ a=>lP 0 0 (nc ((ab x)-(ab y))) a (fun _ a=>lL a ac (aR (lL a ac (au (aa a [.v (pB b),.o qT 3 0 1,.o (nv ((ab x)-(ab y))) 0 0 2] (am 34 a (fh true ((ab x)-(ab y)) (by first|assumption|exact aA (JY _ _) aM) _ _ a.g) (fun _ _ a=>lP 1 0 (ic (cF true ((ab x)-(ab y)))) a (fun _ a=>ae a [(1,0,3)] (iv (cF true ((ab x)-(ab y)))) (congrArg iv (by unfold cF ab at *;simp;omega))))))))))))))))))))))))
theorem AR (x y:Int)(e:(wds (ab x)).length<=1000000000)(f:(wds (ab y)).length<=1000000000)(z:(wds (ab x+ab y)).length<=1000000000)(p:aw x=true)(i:aw y=false)(C:ab x<ab y)(w:World)(h:Hp)(g:G w h):CV 131 #[wX (.bool true) (ab x),wX (.bool false) (ab y)] w h (iv (x+y)):=by
 have a:=sS g;have u:=bE p;have j:=bw i;exact go Tryz.func131 [(0,wX qT (ab x)),(1,wX qF (ab y))] rfl (aD (lA 2 27 (wC qT (ab x)) a (fun d w2 H a=>lA 3 27 (wC qF (ab y)) a (fun b F K a=>lA 4 27 ([qF,uV 0,eS]) a (fun I D J a=>af (aa a [.v (pB d),.o qT 2 0 1,.v (pB b),.o qF 1 0 1,.v qF] (ah (cK (cQ (aa a [.v (qP d 1),.o (nv (ab x)) 2 1 2,.v (qP b 1),.o (nv (ab y)) 1 1 2] (am 27 a (CU (ab x) (ab y) oM aM aM _ _ a.g) (fun _ _ a=>lL a [.c,.v (nv 0),.v qF] (lA 5 25 ([uV 0,eS]) a (fun l _ _ a=>lP 0 0 (nc 0) a (fun _ a=>lL a ac (aR (lL a ac (ah (cK (aa a [.v (qP b 1),.o (nv (ab y)) 2 1 2,.v (qP d 1),.o (nv (ab x)) 3 1 2] (am 40 a (B7 (ab y) (ab x) oM aM aM _ _ a.g) (fun _ _ a=>lL a [.c,.v (nv ((ab y)-(ab x))),.v qT] (lA 7 25 ([uV 0,eS]) a (fun B _ _ a=>lP 0 0 (nc ((ab y)-(ab x))) a (fun _ a=>lL a ac (aR (lL a [.v (pB b),.o qF 3 0 1,.o (nv ((ab y)-(ab x))) 0 0 2] (am 46 a (fh false ((ab y)-(ab x)) (by first|assumption|exact aA (JY _ _) aM) _ _ a.g) (fun _ _ a=>lP 2 0 (ic (cF false ((ab y)-(ab x)))) a (fun _ a=>ae a [(2,0,3)] (iv (cF false ((ab y)-(ab x)))) (congrArg iv (by unfold cF ab at *;simp;omega))))))))))))))))))))))))))))))))
theorem FC (x y:Int)(d:(wds (ab x)).length<=1000000000)(e:(wds (ab y)).length<=1000000000)(p:(wds (ab x+ab y)).length<=1000000000)(j:aw x=true)(f:aw y=true)(w:World)(h:Hp)(g:G w h):CV 131 #[wX (.bool true) (ab x),wX (.bool true) (ab y)] w h (iv (x+y)):=by
 have a:=sS g;have l:=bE j;have i:=bE f;refine go Tryz.func131 [(0,wX qT (ab x)),(1,wX qT (ab y))] rfl (aD (lA 2 27 (wC qT (ab x)) a (fun b w2 B a=>lA 3 27 (wC qT (ab y)) a (fun c z F a=>lA 4 27 ([qF,uV 0,eS]) a (fun C u D a=>af (aa a [.v (pB b),.o qT 2 0 1,.v (pB c),.o qT 1 0 1,.v qT] (au (cQ (cR 8 [] mixed a aq ?_)))))))));exact eV 0 14 (pB b) (eO 1 15 [(2,0,1)] qT a (eV 2 16 (qP b 1) (eO 3 17 [(2,1,2)] (nv (ab x)) a (eV 4 18 (qP c 1) (eO 5 19 [(1,1,2)] (nv (ab y)) a (ai 6 20 a (fun _ _ a=>FT (ab x) (ab y) aM aM _ _ a.g) (fun _ _ a=>ai 7 21 a (fun _ _ a=>fh true ((ab x)+(ab y)) (by first|assumption|exact aA (JY _ _) aM) _ _ a.g) (fun _ _ a=>bY a (fun _ _ a=>tP 8 0 0 (ic (cF true ((ab x)+(ab y)))) a (fun _ a=>tN (kX (a.ret [(0,0,3)] (iv (cF true ((ab x)+(ab y)))) (congrArg iv (by unfold cF ab at *;simp;omega))))))))))))))
theorem Ds (x y:Int)(f:(wds (ab x)).length<=1000000000)(i:(wds (ab y)).length<=1000000000)(o:(wds (ab x*ab y)).length<=1000000000)(e:aw x=false)(b:aw y=false)(w:World)(h:Hp)(g:G w h):CV 64 #[wX (.bool false) (ab x),wX (.bool false) (ab y)] w h (iv (x*y)):=by
 have a:=sS g;have l:=bw e;have j:=bw b;refine go Tryz.func64 [(0,wX qF (ab x)),(1,wX qF (ab y))] rfl (aD (lA 2 27 (wC qF (ab x)) a (fun c w2 z a=>lA 3 27 (wC qF (ab y)) a (fun d u D a=>lA 4 27 ([qF,uV 0,eS]) a (fun B p C a=>af (cR 11 [] mixed a aq ?_))))));exact eV 0 5 (pB c) (eO 1 6 [(2,0,1)] qF a (eV 2 7 (pB d) (eO 3 8 [(1,0,1)] qF a (eV 4 9 qF (eV 5 10 (qP c 1) (eO 6 11 [(2,1,2)] (nv (ab x)) a (eV 7 12 (qP d 1) (eO 8 13 [(1,1,2)] (nv (ab y)) a (ai 9 14 a (fun _ _ a=>o3 (ab x) (ab y) aM aM _ _ a.g) (fun _ _ a=>ai 10 15 a (fun _ _ a=>fh false ((ab x)*(ab y)) aM _ _ a.g) (fun _ _ a=>bY a (fun _ _ a=>tP 11 0 0 (ic (cF false ((ab x)*(ab y)))) a (fun _ a=>tN (kX (a.ret [(0,0,3)] (iv (cF false ((ab x)*(ab y)))) (by rw[<-ol x y,e,b];rfl))))))))))))))))
theorem Fg (x y:Int)(f:(wds (ab x)).length<=1000000000)(i:(wds (ab y)).length<=1000000000)(o:(wds (ab x*ab y)).length<=1000000000)(e:aw x=false)(b:aw y=true)(w:World)(h:Hp)(g:G w h):CV 64 #[wX (.bool false) (ab x),wX (.bool true) (ab y)] w h (iv (x*y)):=by
 have a:=sS g;have l:=bw e;have j:=bE b;refine go Tryz.func64 [(0,wX qF (ab x)),(1,wX qT (ab y))] rfl (aD (lA 2 27 (wC qF (ab x)) a (fun c w2 z a=>lA 3 27 (wC qT (ab y)) a (fun d u D a=>lA 4 27 ([qF,uV 0,eS]) a (fun B p C a=>af (cR 11 [] mixed a aq ?_))))));exact eV 0 5 (pB c) (eO 1 6 [(2,0,1)] qF a (eV 2 7 (pB d) (eO 3 8 [(1,0,1)] qT a (eV 4 9 qT (eV 5 10 (qP c 1) (eO 6 11 [(2,1,2)] (nv (ab x)) a (eV 7 12 (qP d 1) (eO 8 13 [(1,1,2)] (nv (ab y)) a (ai 9 14 a (fun _ _ a=>o3 (ab x) (ab y) aM aM _ _ a.g) (fun _ _ a=>ai 10 15 a (fun _ _ a=>fh true ((ab x)*(ab y)) aM _ _ a.g) (fun _ _ a=>bY a (fun _ _ a=>tP 11 0 0 (ic (cF true ((ab x)*(ab y)))) a (fun _ a=>tN (kX (a.ret [(0,0,3)] (iv (cF true ((ab x)*(ab y)))) (by rw[<-ol x y,e,b];rfl))))))))))))))))
theorem DN (x y:Int)(f:(wds (ab x)).length<=1000000000)(i:(wds (ab y)).length<=1000000000)(o:(wds (ab x*ab y)).length<=1000000000)(e:aw x=true)(b:aw y=false)(w:World)(h:Hp)(g:G w h):CV 64 #[wX (.bool true) (ab x),wX (.bool false) (ab y)] w h (iv (x*y)):=by
 have a:=sS g;have l:=bE e;have j:=bw b;refine go Tryz.func64 [(0,wX qT (ab x)),(1,wX qF (ab y))] rfl (aD (lA 2 27 (wC qT (ab x)) a (fun c w2 z a=>lA 3 27 (wC qF (ab y)) a (fun d u D a=>lA 4 27 ([qF,uV 0,eS]) a (fun B p C a=>af (cR 11 [] mixed a aq ?_))))));exact eV 0 5 (pB c) (eO 1 6 [(2,0,1)] qT a (eV 2 7 (pB d) (eO 3 8 [(1,0,1)] qF a (eV 4 9 qT (eV 5 10 (qP c 1) (eO 6 11 [(2,1,2)] (nv (ab x)) a (eV 7 12 (qP d 1) (eO 8 13 [(1,1,2)] (nv (ab y)) a (ai 9 14 a (fun _ _ a=>o3 (ab x) (ab y) aM aM _ _ a.g) (fun _ _ a=>ai 10 15 a (fun _ _ a=>fh true ((ab x)*(ab y)) aM _ _ a.g) (fun _ _ a=>bY a (fun _ _ a=>tP 11 0 0 (ic (cF true ((ab x)*(ab y)))) a (fun _ a=>tN (kX (a.ret [(0,0,3)] (iv (cF true ((ab x)*(ab y)))) (by rw[<-ol x y,e,b];rfl))))))))))))))))
theorem EO (x y:Int)(f:(wds (ab x)).length<=1000000000)(i:(wds (ab y)).length<=1000000000)(o:(wds (ab x*ab y)).length<=1000000000)(e:aw x=true)(b:aw y=true)(w:World)(h:Hp)(g:G w h):CV 64 #[wX (.bool true) (ab x),wX (.bool true) (ab y)] w h (iv (x*y)):=by
 have a:=sS g;have l:=bE e;have j:=bE b;refine go Tryz.func64 [(0,wX qT (ab x)),(1,wX qT (ab y))] rfl (aD (lA 2 27 (wC qT (ab x)) a (fun c w2 z a=>lA 3 27 (wC qT (ab y)) a (fun d u D a=>lA 4 27 ([qF,uV 0,eS]) a (fun B p C a=>af (cR 11 [] mixed a aq ?_))))));exact eV 0 5 (pB c) (eO 1 6 [(2,0,1)] qT a (eV 2 7 (pB d) (eO 3 8 [(1,0,1)] qT a (eV 4 9 qF (eV 5 10 (qP c 1) (eO 6 11 [(2,1,2)] (nv (ab x)) a (eV 7 12 (qP d 1) (eO 8 13 [(1,1,2)] (nv (ab y)) a (ai 9 14 a (fun _ _ a=>o3 (ab x) (ab y) aM aM _ _ a.g) (fun _ _ a=>ai 10 15 a (fun _ _ a=>fh false ((ab x)*(ab y)) aM _ _ a.g) (fun _ _ a=>bY a (fun _ _ a=>tP 11 0 0 (ic (cF false ((ab x)*(ab y)))) a (fun _ a=>tN (kX (a.ret [(0,0,3)] (iv (cF false ((ab x)*(ab y)))) (by rw[<-ol x y,e,b];rfl))))))))))))))))
theorem Hh (x y:Int)(b:(wds (ab x)).length+(wds (ab y)).length<=999999999)(w:World)(h:Hp)(g:G w h):CV 131 #[iv x,iv y] w h (iv (x+y)):=by
 have a:(wds (ab x+ab y)).length<=1000000000:=eu j5 oM
 rcases hx:aw x with _|_<;>rcases hy:aw y with _|_<;>rw[jd hx,jd hy]
 ·exact ED x y oM oM a hx hy w h g
 ·rcases eb (ab x) (ab y) with hc|hc
  ·exact Ai x y oM oM a hx hy hc w h g
  ·exact BS x y oM oM a hx hy hc w h g
 ·rcases eb (ab x) (ab y) with hc|hc
  ·exact AR x y oM oM a hx hy hc w h g
  ·exact Bj x y oM oM a hx hy hc w h g
 ·exact FC x y oM oM a hx hy w h g
theorem Cx (x y:Int)(b:(wds (ab x)).length+(wds (ab y)).length<=1000000000)(w:World)(h:Hp)(g:G w h):CV 64 #[iv x,iv y] w h (iv (x*y)):=by
 have a:(wds (ab x*ab y)).length<=1000000000:=eu cX oM
 rcases hx:aw x with _|_<;>rcases hy:aw y with _|_<;>rw[jd hx,jd hy]
 ·exact Ds x y oM oM a hx hy w h g
 ·exact Fg x y oM oM a hx hy w h g
 ·exact DN x y oM oM a hx hy w h g
 ·exact EO x y oM oM a hx hy w h g
theorem vZ (n:Nat)(hl:(wds n).length<=1000000000)(w:World)(h:Hp)(g:G w h):CR 150 #[nv n] w h (fun v h1=>∃ A,v=.slice A ((nb n+7)/8) ((nb n+7)/8)/\SlO 1 mr 0 h1 A (fe n ((nb n+7)/8))):=by
 have c:=sS g;have W:=me n;have hwl:=lg n;refine go Tryz.func150 [(0,nv n)] rfl (aD (lA 1 25 (nc n) c (fun J w2 h3 c=>lL c ac (aR (lL c [.o (nv n) 0 0 2] (am 8 c (fg n hl _ _ c.g) (fun w4 h5 c=>bI 9 ((nb n:Nat)+7) ((nb n)+7) (lV 10 (nV (((nb n)+7)/8)) ?_ (hr:=be (dD (t:=3) (u:=3) (x:=.tmp 9) (y:=.const (iV 8)) (k:=.i64) (a:=(((nb n)+7:Nat):Int)) (b:=(8:Int)) kR kR kR oM _) (dl ((nb n)+7) 8 oM))))))))));refine lL c ac (aR (lL c ac (lK 12 5 (((nb n)+7)/8:Nat) 1 1 (.int .u8 0) mr 0 c (fun p w7 h8 c=>?_))));have K:(yp (((nb n)+7)/8:Nat) 0).length=(((nb n)+7)/8:Nat):=by simp
 refine lL c ac (aR (lL c [.o (nv n) 1 0 2] (lC 14 c (fN n oM _ _ c.g) ?_)));rintro _ _ zd c ⟨e,B,rfl,V,I⟩;replace c:=c.aS I;refine lL c ac (af (aa c aK (bh ?_)));refine cj _ (CG.loop (fun H Γ Y=>∃ (i:Nat)(l:List Nat)(F:Hp),H=((nb n+7)/8)-i/\Γ=[(2,sZ),(3,nV (((nb n)+7)/8)),(4,qS (sB p) (((nb n)+7)/8:Nat) (((nb n)+7)/8:Nat)),(5,qS e ((wds n).length) B),(15,nV (((nb n)+7)/8)),(16,nV i)]/\SS w h Y F [⟨p,5,(l).flatMap mr⟩,⟨J,25,nc n⟩] [] [fun F=>SlO 1 aj 0 F e (wds n)]/\i<=((nb n+7)/8)/\l.length=((nb n+7)/8)/\(∀ j,j<i->l.getD (((nb n+7)/8)-1-j) 0=n/256^j%256)) _ ⟨0,yp (((nb n)+7)/8:Nat) 0,zd,rfl,rfl,c.to _ _,JL _,K,(fun j M=>absurd M oM)⟩ ?_);rintro _ _ _ ⟨i,l,ze,O,rfl,c,hi,z,Q⟩;have Z:=nN n (i/8);refine aD ?_;cases D:(decide ((i:Int)<((((nb n)+7)/8:Nat):Int)))
 .
  have zb:=oF D;refine lB 17 D (af (cW (CG.exit ?_)))
  show CG _ _ _ _ _ _ _ _
  refine aa c aK (lN (kX ?_));have X:i=((nb n+7)/8):=by omega
  have L:l=fe n ((nb n+7)/8):=qn z (fun j M=>Q j oM);rw[L] at c
  obtain ⟨_,c,C,S,U⟩:=c.pub 0;replace c:=(c.to [⟨J,25,nc n⟩] []).aS (SlO.of_flat (sz:=1) (f:=mr) (d:=0) (b:=p) (o:=0) (l:=fe n ((nb n+7)/8)) (fun _=>rfl) C);exact c.ret [] (qS (sB p) (((nb n)+7)/8:Nat) (((nb n)+7)/8:Nat)) (⟨sB p,rfl,c.f.1⟩)
 have zb:=oT D;refine lB 17 D (af (cl (cK (cQ (kZ (aa c aK (lN (kQ (lL c aK (bI 21 ((((nb n)+7)/8:Nat)-1) ((((nb n)+7)/8:Nat)-1) ?_))))))))));refine lL c ac (bI 23 (((((nb n)+7)/8:Nat)-1:Nat)-(i:Nat)) (((((nb n)+7)/8:Nat)-1:Nat)-i) ?_);refine lL c aK (lV 26 (nV (i/8)) ?_ (hr:=be (dD (t:=3) (u:=3) (x:=.tmp 25) (y:=.const (iV 8)) (k:=.i64) (a:=(i:Int)) (b:=(8:Int)) kR kR kR oM _) (dl i 8 oM)));refine lX 27 e ((wds n).length) B 1 (i/8:Nat) (i/8) ((c.f.1).ok oM) (lH 28 (mV ((wds n).getD (i/8) 0)) c ((c.f.1).el (i/8) oM) (lL c ac (lV 30 (nV (i%8)) ?_ (hr:=be (fR (t:=3) (u:=3) (x:=.tmp 29) (y:=.const (iV 8)) (k:=.i64) (a:=(i:Int)) (b:=(8:Int)) kR kR kR oM _) (dx i 8)))));refine bI 31 (8*(i%8:Nat)) (8*(i%8)) (lV 32 (mV (((wds n).getD (i/8) 0)/2^(8*(i%8)))) ?_ (hr:=gm (t:=23) (u:=3) (x:=.tmp 28) (y:=.tmp 31) (ky:=.i64) (a:=((wds n).getD (i/8) 0)) (n:=(8*(i%8))) kR kR kR oM _));refine lV 33 (.int .u8 ((wds n).getD (i/8) 0/2^(8*(i%8))%256:Nat)) ?_ (hr:=be (n:=IntKind.wrap .u8 (((wds n).getD (i/8) 0/2^(8*(i%8)):Nat):Int)) kR (AB _));refine lX 34 (sB p) (((nb n)+7)/8:Nat) (((nb n)+7)/8:Nat) 1 (((((nb n)+7)/8:Nat)-1:Nat)-i:Nat) (((((nb n)+7)/8:Nat)-1:Nat)-i:Nat) rfl (lW 0 l mr 1 (((((nb n)+7)/8:Nat)-1:Nat)-i:Nat) ((wds n).getD (i/8) 0/2^(8*(i%8))%256:Nat) c oM (fun _ c=>?_));have zc:((l).set (((((nb n)+7)/8:Nat)-1:Nat)-i:Nat) ((wds n).getD (i/8) 0/2^(8*(i%8))%256:Nat)).length=(((nb n)+7)/8:Nat):=by rw[Gx];exact z
 replace c:=c.to [⟨p,5,((l).set (((((nb n)+7)/8:Nat)-1:Nat)-i:Nat) ((wds n).getD (i/8) 0/2^(8*(i%8))%256:Nat)).flatMap mr⟩,⟨J,25,nc n⟩] [];refine lN (kQ (bI 35 ((i:Nat)+1) (i+1) ?_));refine lL c ac (lD ?_);intro a_ ka;refine ⟨_,_,?_,⟨i+1,(l).set (((((nb n)+7)/8:Nat)-1:Nat)-i:Nat) ((wds n).getD (i/8) 0/2^(8*(i%8))%256:Nat),ze,rfl,rfl,c.to _ _,oM,zc,(gE z oM Q (wJ n i))⟩,ka.to _ kR⟩
 omega
theorem vW (n m:Nat)(A:Z9)(c:Nat)(hc:m<=c)(hm:m<=10000000000)(Z:n<256^m)(w:World)(h:Hp)(g:G w h)(U:SlO 1 mr 0 h A (fe n m)):CV 75 #[.slice A m c] w h (nv n):=by
 have e:=((sS g).aS U);have hbl:=jE n m;refine go Tryz.func75 [(0,qS A m c)] rfl (aD (lA 2 25 ([uV 0,eS]) e (fun B w2 h3 e=>aR (lL e [.c,.v (nV m)] (bI 7 ((m:Nat)+7) (m+7) ?_)))));refine lV 8 (nV ((m+7)/8)) ?_ (hr:=be (dD (t:=3) (u:=3) (x:=.tmp 7) (y:=.const (iV 8)) (k:=.i64) (a:=((m+7:Nat):Int)) (b:=(8:Int)) kR kR kR oM _) (dl (m+7) 8 oM));refine lK 9 23 ((m+7)/8) 1 8 (uV 0) aj 0 e (fun j w5 h6 e=>?_);have I:(yp ((m+7)/8) 0).length=((m+7)/8):=by simp
 refine lL e ac (af (aa e [.c,.v (nV m),.c] (bh ?_)));refine cj _ (CG.loop (fun H Γ V=>∃ (i:Nat)(l:List Nat)(C:Hp),H=m-i/\Γ=[(0,qS A m c),(2,pB B),(3,qS (sB j) ((m+7)/8) ((m+7)/8)),(11,nV m),(12,nV i)]/\SS w h V C [⟨j,23,(l).flatMap aj⟩,⟨B,25,[uV 0,eS]⟩] [] [fun C=>SlO 1 mr 0 C A (fe n m)]/\i<=m/\l.length=(m+7)/8/\Wd l/\aF l=n%256^i) _ ⟨0,yp ((m+7)/8) 0,h6,rfl,rfl,e.to _ _,JL _,I,Wd.rep _,(by show ak _ _=_;rw[ff,JJ,Nat.mod_one])⟩ ?_);rintro _ _ w8 ⟨i,l,h9,O,rfl,e,hi,F,L,inv⟩;have W:=j8 n m (m-1-i);refine aD ?_;cases z:(decide ((i:Int)<(m:Int)))
 .
  have zb:=oF z;refine lB 13 z (af (cW (CG.exit ?_)))
  show CG _ _ _ _ _ _ _ _
  refine aD ?_;have D:i=m:=by omega
  have X:aF l=n:=by rw[inv,D];exact yr Z
  obtain ⟨_,e,p,Q,S⟩:=e.pub 0;replace e:=(e.to [⟨B,25,[uV 0,eS]⟩] []).aS (SlO.of_flat (sz:=1) (f:=aj) (d:=0) (b:=j) (o:=0) (l:=l) (fun _=>rfl) p);exact lL e ac (am 37 e (cZ (sB j) ((m+7)/8) (l) ((m+7)/8) (n) (by first|rfl|assumption|(simp;done)|(simp;omega)|omega) (L) (X) sM sM _ _ e.g e.f.1) (fun _ _ e=>lP 0 0 (nc n) e (fun _ e=>ae e [(0,0,2)] (nv n) rfl)))
 have zb:=oT z;refine lB 13 z (af (cl (cK (cQ (kZ (aa e aK (lN (cR 19 [] mixed e aq ?_))))))));refine eV 0 15 (qS (sB j) ((m+7)/8) ((m+7)/8)) (eV 1 16 (nV i) (eV 2 17 (nV (i/8)) ?_ (hv:=fun _=>be (dD (t:=3) (u:=3) (x:=.tmp 16) (y:=.const (iV 8)) (k:=.i64) (a:=(i:Int)) (b:=(8:Int)) kR kR kR oM _) (dl i 8 oM))));refine eX 3 18 (sB j) ((m+7)/8) ((m+7)/8) 1 (i/8:Nat) (i/8) rfl (eQ 4 19 0 l aj 1 0 (i/8) (mV ((l).getD (i/8) 0)) e oM (eV 5 20 (qS A m c) (eV 6 21 (qS A m c) (eV 7 22 (nV m) (mt 8 23 ((m:Nat)-1) (m-1) (eV 9 24 (nV i) (mt 10 25 ((m-1:Nat)-(i:Nat)) ((m-1)-i) (eX 11 26 A m c 1 ((m-1)-i:Nat) ((m-1)-i) ((e.f.1).ok oM) (eH 12 27 (.int .u8 ((fe n m).getD ((m-1)-i) 0:Nat)) e ((e.f.1).el ((m-1)-i) oM) (eV 13 28 (mV ((fe n m).getD ((m-1)-i) 0)) ?_ (hv:=fun _=>rU ((((fe n m).getD ((m-1)-i) 0:Nat):Int)) kR (bM oM oM))))))))))));refine eV 14 29 (nV i) (eV 15 30 (nV (i%8)) ?_ (hv:=fun _=>be (fR (t:=3) (u:=3) (x:=.tmp 29) (y:=.const (iV 8)) (k:=.i64) (a:=(i:Int)) (b:=(8:Int)) kR kR kR oM _) (dx i 8)));refine mt 16 31 (8*(i%8:Nat)) (8*(i%8)) (eV 17 32 (mV (((fe n m).getD ((m-1)-i) 0:Nat)*2^(8*(i%8))%18446744073709551616)) ?_ (hv:=fun _=>ig (t:=23) (u:=3) (x:=.tmp 28) (y:=.tmp 31) (ky:=.i64) (a:=((fe n m).getD ((m-1)-i) 0:Nat)) (n:=(8*(i%8))) kR kR kR _));obtain ⟨K,J,M⟩:=rK oM inv (show (fe n m).getD (m-1-i) 0=n/256^i%256 by rw[iB n m _ oM,show m-1-(m-1-i)=i by omega]);have hlg:=L.get (i/8);refine eV 18 33 (mV (l.getD (i/8) 0+(fe n m).getD (m-1-i) 0*2^(8*(i%8)))) ?_ (hv:=fun _=>be (jC (t:=23) (u:=23) (x:=.tmp 19) (y:=.tmp 32) (a:=((l).getD (i/8) 0)) (b:=(((fe n m).getD ((m-1)-i) 0:Nat)*2^(8*(i%8))%18446744073709551616:Nat)) kR kR kR oM oM _) (by rw[K]));refine bY e (fun _ zd e=>tX 19 34 (sB j) ((m+7)/8) ((m+7)/8) 1 (i/8:Nat) (i/8) rfl (tW 20 0 l aj 1 (i/8) (l.getD (i/8) 0+(fe n m).getD (m-1-i) 0*2^(8*(i%8)):Nat) e oM (fun _ e=>?_)));have zc:((l).set (i/8) (l.getD (i/8) 0+(fe n m).getD (m-1-i) 0*2^(8*(i%8)):Nat)).length=((m+7)/8):=by rw[Gx];exact F
 replace e:=e.to [⟨j,23,((l).set (i/8) (l.getD (i/8) 0+(fe n m).getD (m-1-i) 0*2^(8*(i%8)):Nat)).flatMap aj⟩,⟨B,25,[uV 0,eS]⟩] [];refine tN (kQ (bI 35 ((i:Nat)+1) (i+1) ?_));refine lL e ac (lD ?_);intro a_ Y;refine ⟨_,_,?_,⟨i+1,(l).set (i/8) (l.getD (i/8) 0+(fe n m).getD (m-1-i) 0*2^(8*(i%8)):Nat),zd,rfl,rfl,e.to _ _,oM,zc,(L.set _ J),M⟩,Y.to _ kR⟩
 omega
theorem Dx (n k:Nat)(C:(wds n).length<=1000000000)(hk:k<=65536)(w:World)(h:Hp)(g:G w h):CV 162 #[nv n,nV k] w h (nv (n*2^k)):=by
 have a:=sS g;refine go Tryz.func162 [(0,nv n),(1,nV k)] rfl (aD (lA 2 25 (nc n) a (fun H w2 K a=>lA 4 25 ([uV 0,eS]) a (fun J I M a=>aR (lL a ac (lV 6 (nV k) ?_ (hr:=be (n:=if (65536:Int)<(k:Int) then (65536:Int) else (k:Int)) kR (if_neg oM))))))));refine lV 7 (nV k) ?_ (hr:=be (n:=if (k:Int)>(-65536:Int) then (k:Int) else (-65536:Int)) kR (if_pos oM));refine lL a ac (af (aa a ac ?_));have ⟨c,l⟩:=dF (p:=(k:Int)<(0:Int)) oM;refine lB 9 c (ah (cK (aa a [.o (nv n) 1 0 2] (lC 17 a (fN n oM _ _ a.g) ?_))));rintro _ F L a ⟨b,e,rfl,u,d⟩;replace a:=a.aS d;refine lL a ac (lC 19 a (vO b e (wds n) (Wd.wds n) C k oM _ _ a.g a.f.1) ?_);rintro _ _ _ a ⟨y,x,z,rfl,B,D,i,j,hz⟩;replace a:=a.aS hz;exact am 20 a (cZ y x (z) z.length ((n*2^k)) (by first|rfl|assumption|(simp;done)|(simp;omega)|omega) (i) (by rw[j,ay]) sM sM _ _ a.g a.f.1) (fun _ _ a=>lP 0 0 (nc (n*2^k)) a (fun _ a=>ae a [(0,0,2)] (nv (n*2^k)) rfl))
section
variable {P:Program}{Γ:ck}{o:Oper}
theorem F0 {t e:TypeId}{x ix:Operand}{b off sz len:Nat}{i:Int}{kk:IntKind}(k:Nat)(p:o.op=.indexAddr t x ix)(l:ev Γ x=.pointer (some ⟨b,off,none⟩))(hi:ev Γ ix=.int kk i)
    (h:P.underlying t=some (.array len e))(f:(P.info? e).map (·.size)=some sz)(hk:i=k)(u:k<len)(w:World) :
    (execOp (ev Γ) o).run P w=.ok (.value (.pointer (some ⟨b,off+k*sz,none⟩))) w:=by
  subst hk
  unfold execOp
  simp only[p]
  rw[l,hi];have c:P.elem t=e:=by unfold Program.elem;rw[h]
  have d:P.arrayLen t=len:=by unfold Program.arrayLen;rw[h]
  have h1:=run_indexAt_array (P:=P) w t ⟨b,off,none⟩ kk (k:Int) (by rw[c,d];exact h);rw[d,if_pos ⟨by omega,by omega⟩,c] at h1
  have j:(sizeOf e).run P w=.ok sz w:=by
    cases a:P.info? e with
    | none=>rw[a] at f;cases f
    | some i =>
      rw[a] at f
      simp at f
      simp[sizeOf,typeInfo,a,f]
  rw[j] at h1
  simp[h1,Result.andThen,Addr.add]
end
def Tz (n k m:Nat):Prop:=n=2^k*m/\m%2=1
theorem Ei {x:Nat}(h0:x≠0)(h:x<18446744073709551616):∃ m,Tz x (Lib.ctz 64 x) m/\Lib.ctz 64 x<64:=by
 unfold Lib.ctz
 rw[if_neg h0];obtain ⟨m,e,a⟩:=Lib.ctzFrom_spec 64 x oM h;exact ⟨2*m+1,⟨e,by omega⟩,a⟩
theorem Tz.odd_pos {n k m:Nat}(h:Tz n k m):0<m:=by have:=h.2;omega
theorem Tz.word {n i x k m r:Nat}(e:n=18446744073709551616^i*(x+18446744073709551616*r))(t:Tz x k m)(hk:k<64):Tz n (64*i+k) (m+2^(64-k)*r):=by
 obtain ⟨b,c⟩:=t;refine ⟨?_,?_⟩
 ·have a:(18446744073709551616:Nat)=2^k*2^(64-k):=by rw[<-y8,show k+(64-k)=64 by omega]
  have e1:(18446744073709551616:Nat)^i=2^(64*i):=by rw[zy]
  rw[e,e1,b]
  conv=>lhs;rw[a]
  rw[y8,yW (2^k),<-yV,<-yW]
 ·obtain ⟨j,hj⟩:∃ j,64-k=j+1:=⟨63-k,by omega⟩
  rw[hj,yS,yT (2^j) 2,yW]
  omega
theorem Tz.uniq {n k m c f:Nat}(a:Tz n k m)(b:Tz n c f):k=c/\m=f:=by
 obtain ⟨j,l⟩:=a;obtain ⟨i,p⟩:=b
 have key:∀ {k m c f:Nat},2^k*m=2^c*f->m%2=1->c<=k:=fun {k m c f} e u=>by
  rcases eb k c with h|h
  ·exfalso
   obtain ⟨d,rfl⟩:∃ d,c=k+(d+1):=⟨c-k-1,by omega⟩;rw[y8,yW] at e
   have e2:=JZ (y5 k) e;rw[yS,yT (2^d) 2,yW] at e2
   omega
  ·exact h
 have h1:=key (j.symm.trans i) l;have x:=key (i.symm.trans j) p;have o:k=c:=by omega
 subst o;exact ⟨rfl,JZ (y5 k) (j.symm.trans i)⟩
theorem om {x y:Nat}(a:y%2=1):J0 (2*x) y=J0 x y:=by
 have b:Nat.Coprime 2 y:=by
  unfold Nat.Coprime
  rw[Nat.gcd_rec,a];rfl
 exact b.gcd_mul_left_cancel x
theorem eW {x y:Nat}(a:y%2=1):∀ k,J0 (2^k*x) y=J0 x y
  | 0=>by simp
  | k+1=>by
    rw[yS,yT (2^k) 2,yW,om a];exact eW a k
theorem uF {x y k l m n:Nat}(a:Tz x k m)(b:Tz y l n):J0 x y=J0 m n*2^min k l:=by
 obtain ⟨i,f⟩:=a;obtain ⟨e,c⟩:=b;subst i e
 rcases J1 k l with h|h
 ·rw[yZ h]
  obtain ⟨d,rfl⟩:∃ d,l=k+d:=⟨l-k,by omega⟩;rw[y8,yW,J2,JM m,eW f,JM n,yT]
 ·rw[Ag h]
  obtain ⟨d,rfl⟩:∃ d,k=l+d:=⟨k-l,by omega⟩;rw[y8,yW,J2,eW c,yT]
theorem sR {x y k m:Nat}(b:y<x)(a:y%2=1)(t:Tz (x-y) k m):J0 m y=J0 x y:=by
 rw[<-eW a k,<-t.1];have e:=Nat.gcd_add_self_left (m:=y) (n:=x-y);rw[show x-y+y=x by omega] at e
 exact e.symm
theorem SlO.win {α:Type}{f:α->List Value}{d:α}{h:Hp}{b:Nat}{l:List α}(hf:∀ x,(f x).length=1)(c:Seg h b 0 (l.flatMap f))(o n:Nat):SlO 1 f d h (some ⟨b,o,none⟩) ((l.drop o).take n):=by
  have a:=c.part o ((l.drop o).take n).length;rw[yl] at a
  have e:∀ (l:List α) (o n:Nat),((l.flatMap f).drop o).take ((l.drop o).take n).length=((l.drop o).take n).flatMap f:=by
    have e1:∀ (l:List α),(l.flatMap f).length=l.length:=fun l=>by
      induction l with
      | nil=>rfl
      | cons x l ih=>rw[x0,List.length_append,hf,ih,List.length_cons];omega
    have i:∀ (l:List α) (o:Nat),(l.flatMap f).drop o=(l.drop o).flatMap f:=fun l=>by
      induction l with
      | nil=>intro o;simp
      | cons x l ih =>
        intro o;cases o with
        | zero=>rfl
        | succ o =>
          rw[x0,List.drop_append,hf,Jz (by rw[hf];omega),List.nil_append,List.drop_succ_cons,A8];exact ih o
    have et:∀ (l:List α) (n:Nat),(l.flatMap f).take n=(l.take n).flatMap f:=fun l=>by
      induction l with
      | nil=>intro n;simp
      | cons x l ih =>
        intro n;cases n with
        | zero=>rfl
        | succ n =>
          rw[x0,List.take_append,hf,z8 (by rw[hf];omega),List.take_succ_cons,x0,A8,ih n]
    intro l o n;rw[i,et,yY]
    congr 1
    rcases J1 n (l.drop o).length with h|h
    . rw[yZ h]
    . rw[Ag h,yd,z8 h]
  rw[e] at a
  exact SlO.of_flat hf a
def Tab (h:Hp):Prop:=Seg h 2 0 (Lib.deBruijn64tab.map fun k=>Value.int .u8 ((k:Nat):Int))
theorem Tab.gw {h a:Hp}(t:Tab h)(u:Gw h a):Tab a:=Seg.gw t u
theorem SS.aWt {w0 w:World}{h0 h:Hp}{B:List Bx}{R:List Rw}{F:List (Hp->Prop)}(s:SS w0 h0 w h B R F)(p:Tab h):SS w0 h0 w h B R ((fun h=>Tab h)::F):=s.add (K:=fun h=>Tab h) p
theorem Tab.at {h:Hp}(t:Tab h){k i:Nat}(e:i<64/\Lib.deBruijn64tab.getD i 0=k):Seg h 2 i [.int .u8 ((k:Nat):Int)]:=by
 have a:=Seg.part t i 1;obtain ⟨hi,rfl⟩:=e;rw[yl] at a
 have b:i<Lib.deBruijn64tab.length:=by show i<64;exact hi
 have e1:((Lib.deBruijn64tab.map fun k=>Value.int .u8 ((k:Nat):Int)).drop i).take 1=[.int .u8 ((Lib.deBruijn64tab.getD i 0:Nat):Int)]:=by
  rw[List.drop_eq_getElem_cons (by simpa using b)]
  simp[b]
 rw[e1] at a
 exact a
theorem Hz {s:Result Next}{b z:Nat}{w:World}(h:s=.ok (.value (.pointer (some ⟨b,0+z*1,none⟩))) w):s=.ok (.value (.pointer (some ⟨b,z,none⟩))) w:=by rw[h,z2,yl]
theorem v8 {l:List Nat}(a:Wd l)(b:l.length<=(wds (aF l)).length):wds (aF l)=l:=by
 have e:=nZ a;have h1:(wds (aF l)).length=min (tl l l.length) l.length:=by rw[e,yY]
 have c:=iO l l.length;rw[e,z8 oM]
theorem IT {l:List Nat}(a:Wd l):aF l<256^(8*l.length):=by
 have:=ci a;rw[zy];exact this
theorem D5 {a b:Nat}(h:wds a=wds b):a=b:=by rw[<-ay a,<-ay b,h]
theorem uP {l:List Nat}{i:Nat}(h:i<l.length)(h0:l.getD i 0=0){n:Nat}(inv:n=18446744073709551616^i*ak 18446744073709551616 (l.drop i)):n=18446744073709551616^(i+1)*ak 18446744073709551616 (l.drop (i+1)):=by
 rw[inv,e9 _ h,h0,yl,yS,yW]
theorem Gv (x:Nat)(o:x≠0)(C:x<18446744073709551616)(w:World)(h:Hp)(g:G w h)(F:Tab h):CV 185 #[mV x] w h (nV (Lib.ctz 64 x)):=by
 have d:=((sS g).add (K:=fun D=>Tab D) F);obtain ⟨l,hk⟩:=Lib.lowest_bit 64 x o C;have c:=Lib.deBruijn64_at _ hk
 generalize Lib.ctz 64 x=k at *
 generalize hp:2^k=p at *
 obtain ⟨y,hy⟩:∃ y,p*285870213051353865%18446744073709551616=y:=⟨_,rfl⟩;rw[hy] at c
 obtain ⟨z,hz⟩:∃ z,y/288230376151711744=z:=⟨_,rfl⟩;rw[hz] at c
 refine go Tryz.func185 [(0,mV x)] rfl (aa d ac (af (aa d ac ?_)));have j:((x:Int) == (0:Int))=false:=cD oM;have B:=ag j;refine lB 4 j (ah (cK (aa d aK (lV 7 (mV (18446744073709551616-x)) ?_ (hr:=rU ((0-(x:Int))) kR (by rw[IntKind.wrap_u64];omega))))));refine lV 8 (mV p) ?_ (hr:=be (n:=bits .and .u64 (x:Int) ((18446744073709551616-x:Nat):Int)) kR (by rw[bits_and_u64_nat _ _ C oM];exact congrArg _ l));refine lV 9 (mV y) ?_ (hr:=rU (((p:Int)*285870213051353865)) kR ((mn p 285870213051353865).trans (congrArg _ hy)));refine lV 10 (mV z) ?_ (hr:=be (gm (t:=23) (u:=151) (x:=.tmp 9) (y:=.const (uV 58)) (ky:=.u64) (a:=y) (n:=58) kR kR kR oM _) (congrArg _ (by rw[show (2:Nat)^58=288230376151711744 from rfl];exact hz)));refine lV 11 (qP 2 z) ?_ (hr:=Hz (F0 (t:=268) (e:=5) (x:=.global 2) (ix:=.tmp 10) (b:=2) (off:=0) (sz:=1) (len:=64) (kk:=.u64) (i:=(z:Int)) z kR kR kR kR kR rfl c.1 _));refine lH 12 (.int .u8 (k:Int)) d (Tab.at d.f.1 c) (lV 13 (nV k) ?_ (hr:=rS ((k:Int)) kR (nJ oM oM)));exact lL d ac (ae d [] (nV k) rfl)
theorem qD (A:Z9)(c:Nat)(l:List Nat)(n:Nat)(J:l.length=n)(y:Wd l)(L:0<aF l)(O:l.length<=1000000000)(w:World)(h:Hp)(g:G w h)(F:Tab h)(z:SlO 1 aj 0 h A l):CR 157 #[.slice A n c] w h (fun v _=>∃ k m:Nat,v=nV k/\Tz (aF l) k m/\k/64<l.length):=by
 have a:=(((sS g).add (K:=fun b=>Tab b) F).aS z);refine go Tryz.func157 [(0,qS A n c)] rfl (aa a ac (aR (lL a ac (af (kZ ?_)))));refine cj _ (CG.loop (fun p Γ B=>∃ (i:Nat)(b:Hp),p=l.length-i/\Γ=[(0,qS A n c),(2,iV 0),(3,nV i)]/\SS w h B b [] [] [fun b=>SlO 1 aj 0 b A l,fun b=>Tab b]/\i<=l.length/\aF l=18446744073709551616^i*ak 18446744073709551616 (l.drop i)) _ ⟨0,h,rfl,rfl,a.to _ _,JL _,(by show ak _ _=_;rw[JJ,Nat.one_mul,yb])⟩ ?_);rintro _ _ w1 ⟨i,D,H,rfl,a,hi,inv⟩;have o:i<l.length:=by rcases eb i l.length with b|b;exact b;rw[Jz b] at inv;simp[ak] at inv;omega
 refine cQ (aa a aK (lX 6 A n c 1 (i:Nat) i ((a.f.1).ok oM) ?_));refine lH 7 (mV (l.getD i 0)) a ((a.f.1).el i oM) ?_;cases d:(((l.getD i 0:Nat):Int) == (0:Int))
 .
  have e:=ag d;refine lB 8 d (ah (CG.exit ?_))
  show CG _ _ _ _ _ _ _ _
  refine aa a ac (lI 12 (64*(i:Nat)) ?_);refine lL a aK (lX 15 A n c 1 (i:Nat) i ((a.f.1).ok oM) ?_);refine lH 16 (mV (l.getD i 0)) a ((a.f.1).el i oM) (am 17 a (Gv (l.getD i 0) oM (y.get i) _ _ a.g a.f.2.1) (fun M S a=>?_));obtain ⟨I,u,j⟩:=Ei (x:=l.getD i 0) oM (y.get i);exact lI 18 ((64*(i:Nat))+(Lib.ctz 64 (l.getD i 0):Nat)) (lL a ac (ae a [] (iV ((64*(i:Nat))+(Lib.ctz 64 (l.getD i 0):Nat))) (⟨_,_,rfl,Tz.word (by rw[inv,e9 _ o]) u j,by omega⟩)))
 have e:=eq_of_beq d;refine lB 8 d (au (cK (kZ (kQ (lL a ac (bI 10 ((i:Nat)+1) (i+1) ?_))))));refine lL a ac (lD ?_);intro Q C;refine ⟨_,_,?_,⟨i+1,D,rfl,rfl,a.to _ _,oM,(uP o oM inv)⟩,C.to _ kR⟩
 omega
theorem CN (A:Z9)(c:Nat)(l:List Nat)(n:Nat)(C:l.length=n)(F:l.length<=1099511627776)(D:l.length<=c)(w:World)(h:Hp)(g:G w h)(u:SlO 1 aj 0 h A l):CV 186 #[.slice A n c] w h (.slice A (tl l n) c):=by
 have a:=((sS g).aS u);refine go Tryz.func186 [(0,qS A n c)] rfl (aa a ac (af (kZ ?_)));refine cj _ (CG.loop (fun o Γ x=>∃ (m:Nat)(j:Hp),o=m/\Γ=[(2,sZ),(0,qS A m c)]/\SS w h x j [] [] [fun j=>SlO 1 aj 0 j A l]/\m<=n/\tl l n=tl l m) _ ⟨n,h,rfl,rfl,a.to _ _,nR _,rfl⟩ ?_);rintro _ _ w1 ⟨m,z,B,rfl,a,hm,p⟩;refine cQ (aa a [.c,.v (nV m)] ?_);cases d:(decide ((0:Int)<(m:Int)))
 .
  have e:=oF d;refine lB 5 d (lL a ac (lG 7 ?_));refine lG 8 (lG 9 (lG 10 (lG 11 (lG 12 (lG 13 (lL a [.v qF] (ah (CG.exit ?_))))))))
  show CG _ _ _ _ _ _ _ _
  exact aa a aK (ae a [] (qS A m c) (by rw[p,mY oM]))
 have e:=oT d;refine lB 5 d (lL a [.c,.c,.c,.v (nV m)] (bI 10 ((m:Nat)-1) (m-1) ?_));refine lX 11 A m c 1 (m-1:Nat) (m-1) ((a.f.1).ok oM) (lH 12 (mV (l.getD (m-1) 0)) a ((a.f.1).el (m-1) oM) ?_);cases b:(((l.getD (m-1) 0:Nat):Int) == (0:Int))
 .
  have i:=ag b;refine lB 13 b (lL a [.v qF] (ah (CG.exit ?_)))
  show CG _ _ _ _ _ _ _ _
  exact aa a aK (ae a [] (qS A m c) (by rw[p,mY oM]))
 have i:=eq_of_beq b;refine lB 13 b (lL a [.v qT] (au (cK (kZ (kQ (lL a [.c,.c,.v (nV m)] (bI 18 ((m:Nat)-1) (m-1) ?_)))))));refine lT 19 A m c 1 (m-1:Nat) (m-1) (lL a ac (lD ?_));intro H y;refine ⟨_,_,?_,⟨m-1,z,rfl,rfl,a.to _ _,oM,(by rw[p];exact wN oM oM)⟩,y.to _ kR⟩
 omega
theorem wW (A:Z9)(c:Nat)(D:Z9)(d:Nat)(x y n e:Nat)(X:(wds x).length=n)(I:(wds y).length=e)(J:(wds x).length<=1000000000)(L:(wds y).length<=1000000000)(w:World)(h:Hp)(g:G w h)(K:SlO 1 aj 0 h A (wds x))(U:SlO 1 aj 0 h D (wds y)):CV 159 #[.slice A n c,.slice D e d] w h (iV (bV x y)):=by
 have a:=(((sS g).aS K).aS U);refine go Tryz.func159 [(0,qS A n c),(1,qS D e d)] rfl (aa a ac (af (aa a [.c,.v (nV n),.c,.v (nV e)] ?_)));cases o:((n:Int) != (e:Int))
 .
  have B:=aY o;refine lB 10 o (ah (cK (cQ (aa a [.c,.v (nV n)] (lV 18 (iV ((n:Int)-1)) ?_ (hr:=rS (((n:Nat)-1)) kR ((gj oM oM).trans oM)))))));refine lL a ac (bh ?_);refine cj _ (CG.loop (fun H Γ M=>∃ (m:Nat)(p:Hp),H=m/\Γ=[(0,qS A n c),(1,qS D e d),(5,iV ((m:Int)-1))]/\SS w h M p [] [] [fun p=>SlO 1 aj 0 p D (wds y),fun p=>SlO 1 aj 0 p A (wds x)]/\m<=n/\(wds x).length=(wds y).length/\(wds x).drop m=(wds y).drop m) _ ⟨n,h,rfl,rfl,a.to _ _,nR _,oM,(by rw[Jz oM,Jz oM])⟩ ?_);rintro _ _ w2 ⟨m,Y,S,rfl,a,hm,b,i⟩;refine cQ (aa a ac ?_);cases j:(decide ((0:Int)<=((m:Int)-1:Int)))
  .
   have u:=oF j;refine lB 20 j (ah (CG.exit ?_))
   show CG _ _ _ _ _ _ _ _
   exact aa a ac (ae a [] (iV 0) (by rw[io (D5 (by rw[show m=0 by omega] at i;simpa using i))]))
  have u:=oT j;refine lB 20 j (au (cK (cQ (kZ (cQ (cR 9 [] mixed a aq ?_))))));refine eV 0 23 (qS A n c) (eV 1 24 (iV ((m:Int)-1)) (eX 2 25 A n c 1 ((m:Int)-1) (m-1) ((a.f.2.1).ok oM) (eH 3 26 (mV ((wds x).getD (m-1) 0)) a ((a.f.2.1).el (m-1) oM) (eV 4 27 (qS D e d) (eV 5 28 (iV ((m:Int)-1)) (eX 6 29 D e d 1 ((m:Int)-1) (m-1) ((a.f.1).ok oM) (eH 7 30 (mV ((wds y).getD (m-1) 0)) a ((a.f.1).el (m-1) oM) ?_)))))));cases l:((((wds x).getD (m-1) 0:Nat):Int) != (((wds y).getD (m-1) 0:Nat):Int))
  .
   have z:=aY l;refine eB 8 31 l (bY a (fun Z Q a=>tN (cW (cK (kQ (lL a ac (lV 22 (iV (((m-1:Nat):Int)-1)) ?_ (hr:=rS ((((m:Int)-1)-1)) kR ((gj oM oM).trans oM)))))))));refine lL a ac (lD ?_);intro a_ O;refine ⟨_,_,?_,⟨m-1,Q,rfl,rfl,a.to _ _,oM,b,(eN (k:=m-1) b oM (by rw[show m-1+1=m by omega];exact i) oM)⟩,O.to _ kR⟩
   omega
  have z:=a6 l;refine eB 8 31 l (bY a (fun _ _ a=>tN (cl (cQ (cQ (cR 9 [] mixed a aq ?_))))));refine eV 0 32 (qS A n c) (eV 1 33 (iV ((m:Int)-1)) (eX 2 34 A n c 1 ((m:Int)-1) (m-1) ((a.f.2.1).ok oM) (eH 3 35 (mV ((wds x).getD (m-1) 0)) a ((a.f.2.1).el (m-1) oM) (eV 4 36 (qS D e d) (eV 5 37 (iV ((m:Int)-1)) (eX 6 38 D e d 1 ((m:Int)-1) (m-1) ((a.f.1).ok oM) (eH 7 39 (mV ((wds y).getD (m-1) 0)) a ((a.f.1).el (m-1) oM) ?_)))))));cases C:(decide ((((wds x).getD (m-1) 0:Nat):Int)<(((wds y).getD (m-1) 0:Nat):Int)))
  .
   have W:=oF C;exact eB 8 40 C (bY a (fun _ _ a=>tN (cW (cK (aa a ac (ae a [] (iV 1) (by rw[<-kw (k:=m-1) b oM (by rw[show m-1+1=m by omega];exact i) oM,eZ oM])))))))
  have W:=oT C;exact eB 8 40 C (bY a (fun _ _ a=>tN (cl (aa a ac (ae a [] (iV (-1)) (by rw[<-kw (k:=m-1) b oM (by rw[show m-1+1=m by omega];exact i) oM,dw oM]))))))
 have B:=a6 o;refine lB 10 o (au (cQ (aa a [.c,.v (nV n),.c,.v (nV e)] ?_)));cases F:(decide ((n:Int)<(e:Int)))
 .
  have V:=oF F;exact lB 15 F (ah (cK (aa a ac (ae a [] (iV 1) (by rw[eZ (fO oM)])))))
 have V:=oT F;exact lB 15 F (au (aa a ac (ae a [] (iV (-1)) (by rw[dw (fO oM)]))))
theorem wE (n:Nat)(hn:0<n)(hl:(wds n).length<=1000000000)(w:World)(h:Hp)(g:G w h):CR 156 #[nv n] w h (fun v h1=>CH h h1 v (wds n)):=by
 have e:=sS g;have Y:=me n;have hwl:=lg n;have hbl:=jE n ((nb n+7)/8);have V:=(cC hn).2.2;refine go Tryz.func156 [(0,nv n)] rfl (aD (lA 1 25 (nc n) e (fun K w2 h3 e=>lL e ac (aR (lL e [.o (nv n) 0 0 2] (lC 7 e (vZ n hl _ _ e.g) ?_))))));rintro _ w4 h5 e ⟨D,rfl,hb⟩;replace e:=e.aS hb;refine lL e ac (aR (lL e [.c,.v (nV ((nb n+7)/8))] (bI 10 ((((nb n+7)/8):Nat)+7) ((((nb n+7)/8):Nat)+7) ?_)));refine lV 11 (nV (((((nb n+7)/8):Nat)+7:Nat)/8)) ?_ (hr:=be (dD (t:=3) (u:=3) (x:=.tmp 10) (y:=.const (iV 8)) (k:=.i64) (a:=(((((nb n+7)/8):Nat)+7:Nat):Int)) (b:=(8:Int)) kR kR kR oM _) (dl ((((nb n+7)/8):Nat)+7:Nat) 8 oM));refine lK 12 23 (((((nb n+7)/8):Nat)+7:Nat)/8:Nat) 1 8 (uV 0) aj 0 e (fun j w7 h8 e=>?_);have Q:(yp (((((nb n+7)/8):Nat)+7:Nat)/8:Nat) 0).length=(((((nb n+7)/8):Nat)+7:Nat)/8:Nat):=by simp
 refine lL e ac (af (aa e [.c,.v (nV ((nb n+7)/8)),.c] (bh ?_)));refine cj _ (CG.loop (fun J Γ Z=>∃ (i:Nat)(l:List Nat)(H:Hp),J=((nb n+7)/8)-i/\Γ=[(2,sZ),(3,qS D ((nb n+7)/8) ((nb n+7)/8)),(4,qS (sB j) (((((nb n+7)/8):Nat)+7:Nat)/8:Nat) (((((nb n+7)/8):Nat)+7:Nat)/8:Nat)),(14,nV ((nb n+7)/8)),(15,nV i)]/\SS w h Z H [⟨j,23,(l).flatMap aj⟩,⟨K,25,nc n⟩] [] [fun H=>SlO 1 mr 0 H D (fe n ((nb n+7)/8))]/\i<=((nb n+7)/8)/\l.length=(((nb n+7)/8)+7)/8/\Wd l/\aF l=n%256^i) _ ⟨0,yp (((((nb n+7)/8):Nat)+7:Nat)/8:Nat) 0,h8,rfl,rfl,e.to _ _,JL _,Q,Wd.rep _,(by show ak _ _=_;rw[ff,JJ,Nat.mod_one])⟩ ?_);rintro _ _ _ ⟨i,l,_,X,rfl,e,hi,z,O,inv⟩;have hbi:=j8 n ((nb n+7)/8) (((nb n+7)/8)-1-i);refine aD ?_;cases F:(decide ((i:Int)<((((nb n+7)/8):Nat):Int)))
 .
  have zb:=oF F;refine lB 16 F (af (cW (CG.exit ?_)))
  show CG _ _ _ _ _ _ _ _
  refine aa e aK (lN (kX ?_));have I:i=((nb n+7)/8):=by omega
  have W:aF l=n:=by rw[inv,I];exact yr (vR n)
  have S:l=wds n:=by rw[<-W];exact (v8 O (by rw[z,W];omega)).symm
  rw[S] at e
  obtain ⟨_,e,C,p,B⟩:=e.pub 0;replace e:=(e.to [⟨K,25,nc n⟩] []).aS (SlO.of_flat (sz:=1) (f:=aj) (d:=0) (b:=j) (o:=0) (l:=wds n) (fun _=>rfl) C);exact e.ret [] (qS (sB j) (((((nb n+7)/8):Nat)+7:Nat)/8:Nat) (((((nb n+7)/8):Nat)+7:Nat)/8:Nat)) (⟨j,(by rw[show (((nb n+7)/8)+7)/8=(wds n).length by omega]),p,B,e.f.1⟩)
 have zb:=oT F;refine lB 16 F (af (cl (cK (cQ (kZ (aa e aK (lN (cR 19 [] mixed e aq ?_))))))));refine eV 0 18 (qS (sB j) (((((nb n+7)/8):Nat)+7:Nat)/8:Nat) (((((nb n+7)/8):Nat)+7:Nat)/8:Nat)) (eV 1 19 (nV i) (eV 2 20 (nV (i/8)) ?_ (hv:=fun _=>be (dD (t:=3) (u:=3) (x:=.tmp 19) (y:=.const (iV 8)) (k:=.i64) (a:=(i:Int)) (b:=(8:Int)) kR kR kR oM _) (dl i 8 oM))));refine eX 3 21 (sB j) (((((nb n+7)/8):Nat)+7:Nat)/8:Nat) (((((nb n+7)/8):Nat)+7:Nat)/8:Nat) 1 (i/8:Nat) (i/8) rfl (eQ 4 22 0 l aj 1 0 (i/8) (mV ((l).getD (i/8) 0)) e oM (eV 5 23 (qS D ((nb n+7)/8) ((nb n+7)/8)) (eV 6 24 (qS D ((nb n+7)/8) ((nb n+7)/8)) (eV 7 25 (nV ((nb n+7)/8)) (mt 8 26 ((((nb n+7)/8):Nat)-1) ((((nb n+7)/8):Nat)-1) (eV 9 27 (nV i) (mt 10 28 (((((nb n+7)/8):Nat)-1:Nat)-(i:Nat)) (((((nb n+7)/8):Nat)-1:Nat)-i) (eX 11 29 D ((nb n+7)/8) ((nb n+7)/8) 1 (((((nb n+7)/8):Nat)-1:Nat)-i:Nat) (((((nb n+7)/8):Nat)-1:Nat)-i:Nat) ((e.f.1).ok oM) (eH 12 30 (.int .u8 ((fe n ((nb n+7)/8)).getD (((((nb n+7)/8):Nat)-1:Nat)-i:Nat) 0:Nat)) e ((e.f.1).el (((((nb n+7)/8):Nat)-1:Nat)-i:Nat) oM) (eV 13 31 (mV ((fe n ((nb n+7)/8)).getD (((((nb n+7)/8):Nat)-1:Nat)-i:Nat) 0)) ?_ (hv:=fun _=>rU ((((fe n ((nb n+7)/8)).getD (((((nb n+7)/8):Nat)-1:Nat)-i:Nat) 0:Nat):Int)) kR (bM oM oM))))))))))));refine eV 14 32 (nV i) (eV 15 33 (nV (i%8)) ?_ (hv:=fun _=>be (fR (t:=3) (u:=3) (x:=.tmp 32) (y:=.const (iV 8)) (k:=.i64) (a:=(i:Int)) (b:=(8:Int)) kR kR kR oM _) (dx i 8)));refine mt 16 34 (8*(i%8:Nat)) (8*(i%8)) (eV 17 35 (mV (((fe n ((nb n+7)/8)).getD (((((nb n+7)/8):Nat)-1:Nat)-i:Nat) 0:Nat)*2^(8*(i%8))%18446744073709551616)) ?_ (hv:=fun _=>ig (t:=23) (u:=3) (x:=.tmp 31) (y:=.tmp 34) (ky:=.i64) (a:=((fe n ((nb n+7)/8)).getD (((((nb n+7)/8):Nat)-1:Nat)-i:Nat) 0:Nat)) (n:=(8*(i%8))) kR kR kR _));obtain ⟨M,L,U⟩:=rK oM inv (show (fe n ((nb n+7)/8)).getD (((nb n+7)/8)-1-i) 0=n/256^i%256 by rw[iB n ((nb n+7)/8) _ oM,show ((nb n+7)/8)-1-(((nb n+7)/8)-1-i)=i by omega]);have hlg:=O.get (i/8);refine eV 18 36 (mV (l.getD (i/8) 0+(fe n ((nb n+7)/8)).getD (((nb n+7)/8)-1-i) 0*2^(8*(i%8)))) ?_ (hv:=fun _=>be (jC (t:=23) (u:=23) (x:=.tmp 22) (y:=.tmp 35) (a:=((l).getD (i/8) 0)) (b:=(((fe n ((nb n+7)/8)).getD (((((nb n+7)/8):Nat)-1:Nat)-i:Nat) 0:Nat)*2^(8*(i%8))%18446744073709551616:Nat)) kR kR kR oM oM _) (by rw[M]));refine bY e (fun _ zd e=>tX 19 37 (sB j) (((((nb n+7)/8):Nat)+7:Nat)/8:Nat) (((((nb n+7)/8):Nat)+7:Nat)/8:Nat) 1 (i/8:Nat) (i/8) rfl (tW 20 0 l aj 1 (i/8) (l.getD (i/8) 0+(fe n ((nb n+7)/8)).getD (((nb n+7)/8)-1-i) 0*2^(8*(i%8)):Nat) e oM (fun _ e=>?_)));have zc:((l).set (i/8) (l.getD (i/8) 0+(fe n ((nb n+7)/8)).getD (((nb n+7)/8)-1-i) 0*2^(8*(i%8)):Nat)).length=(((((nb n+7)/8):Nat)+7:Nat)/8:Nat):=by rw[Gx];exact z
 replace e:=e.to [⟨j,23,((l).set (i/8) (l.getD (i/8) 0+(fe n ((nb n+7)/8)).getD (((nb n+7)/8)-1-i) 0*2^(8*(i%8)):Nat)).flatMap aj⟩,⟨K,25,nc n⟩] [];refine tN (kQ (bI 38 ((i:Nat)+1) (i+1) ?_));refine lL e ac (lD ?_);intro a_ ka;refine ⟨_,_,?_,⟨i+1,(l).set (i/8) (l.getD (i/8) 0+(fe n ((nb n+7)/8)).getD (((nb n+7)/8)-1-i) 0*2^(8*(i%8)):Nat),zd,rfl,rfl,e.to _ _,oM,zc,(O.set _ L),U⟩,ka.to _ kR⟩
 omega
theorem Aj (A:Z9)(c:Nat)(l:List Nat)(n:Nat)(hn:l.length=n)(K:Wd l)(hl:l.length<=1000000000)(w:World)(h:Hp)(g:G w h)(V:SlO 1 aj 0 h A l):CV 161 #[.slice A n c] w h (nv (aF l)):=by
 have e:=((sS g).aS V);refine go Tryz.func161 [(0,qS A n c)] rfl (aD (lA 2 25 ([uV 0,eS]) e (fun F w2 h3 e=>aR (lL e [.c,.v (nV n)] (bI 7 (8*(n:Nat)) (8*n) ?_)))));refine lK 8 5 (8*n) 1 1 (.int .u8 0) mr 0 e (fun B w5 h6 e=>?_);have J:(yp (8*n) 0).length=(8*n):=by simp
 refine lL e ac (af (aa e [.c,.v (nV (8*n)),.c] (bh ?_)));refine cj _ (CG.loop (fun I Γ X=>∃ (i:Nat)(z:List Nat)(H:Hp),I=8*n-i/\Γ=[(0,qS A n c),(2,pB F),(3,qS (sB B) (8*n) (8*n)),(10,nV (8*n)),(11,nV i)]/\SS w h X H [⟨B,5,(z).flatMap mr⟩,⟨F,25,[uV 0,eS]⟩] [] [fun H=>SlO 1 aj 0 H A l]/\i<=8*n/\z.length=8*n/\(∀ j,j<i->z.getD (8*n-1-j) 0=aF l/256^j%256)) _ ⟨0,yp (8*n) 0,h6,rfl,rfl,e.to _ _,JL _,J,(fun j O=>absurd O oM)⟩ ?_);rintro _ _ w8 ⟨i,z,h9,M,rfl,e,hi,p,Q⟩;have Y:=K.get (i/8);refine aD ?_;cases D:(decide ((i:Int)<(((8*n):Nat):Int)))
 .
  have zb:=oF D;refine lB 12 D (af (cW (CG.exit ?_)))
  show CG _ _ _ _ _ _ _ _
  refine aa e ac ?_;have W:i=8*n:=by omega
  have L:z=fe (aF l) (8*n):=qn p (fun j O=>Q j oM);rw[L] at e
  obtain ⟨_,e,C,S,U⟩:=e.pub 0;replace e:=(e.to [⟨F,25,[uV 0,eS]⟩] []).aS (SlO.of_flat (sz:=1) (f:=mr) (d:=0) (b:=B) (o:=0) (l:=fe (aF l) (8*n)) (fun _=>rfl) C);exact am 33 e (vW (aF l) (8*n) (sB B) (8*n) oM oM (by have:=IT K;rwa [hn] at this) _ _ e.g e.f.1) (fun _ _ e=>lP 0 0 (nc (aF l)) e (fun _ e=>ae e [(0,0,2)] (nv (aF l)) rfl))
 have zb:=oT D;refine lB 12 D (af (cl (cK (cQ (kZ (aa e aK (lN (kQ (lL e [.c,.c,.v (nV (8*n))] (bI 17 (((8*n):Nat)-1) ((8*n)-1) ?_))))))))));refine lL e ac (bI 19 (((8*n)-1:Nat)-(i:Nat)) (((8*n)-1)-i) ?_);refine lL e aK (lV 22 (nV (i/8)) ?_ (hr:=be (dD (t:=3) (u:=3) (x:=.tmp 21) (y:=.const (iV 8)) (k:=.i64) (a:=(i:Int)) (b:=(8:Int)) kR kR kR oM _) (dl i 8 oM)));refine lX 23 A n c 1 (i/8:Nat) (i/8) ((e.f.1).ok oM) (lH 24 (mV (l.getD (i/8) 0)) e ((e.f.1).el (i/8) oM) (lL e ac (lV 26 (nV (i%8)) ?_ (hr:=be (fR (t:=3) (u:=3) (x:=.tmp 25) (y:=.const (iV 8)) (k:=.i64) (a:=(i:Int)) (b:=(8:Int)) kR kR kR oM _) (dx i 8)))));refine bI 27 (8*(i%8:Nat)) (8*(i%8)) (lV 28 (mV ((l.getD (i/8) 0)/2^(8*(i%8)))) ?_ (hr:=gm (t:=23) (u:=3) (x:=.tmp 24) (y:=.tmp 27) (ky:=.i64) (a:=(l.getD (i/8) 0)) (n:=(8*(i%8))) kR kR kR oM _));refine lV 29 (.int .u8 (l.getD (i/8) 0/2^(8*(i%8))%256:Nat)) ?_ (hr:=be (n:=IntKind.wrap .u8 ((l.getD (i/8) 0/2^(8*(i%8)):Nat):Int)) kR (AB _));refine lX 30 (sB B) (8*n) (8*n) 1 (((8*n)-1)-i:Nat) (((8*n)-1)-i:Nat) rfl (lW 0 z mr 1 (((8*n)-1)-i:Nat) (l.getD (i/8) 0/2^(8*(i%8))%256:Nat) e oM (fun _ e=>?_));have zc:((z).set (((8*n)-1)-i:Nat) (l.getD (i/8) 0/2^(8*(i%8))%256:Nat)).length=(8*n):=by rw[Gx];exact p
 replace e:=e.to [⟨B,5,((z).set (((8*n)-1)-i:Nat) (l.getD (i/8) 0/2^(8*(i%8))%256:Nat)).flatMap mr⟩,⟨F,25,[uV 0,eS]⟩] [];refine lN (kQ (bI 31 ((i:Nat)+1) (i+1) ?_));refine lL e ac (lD ?_);intro a_ Z;refine ⟨_,_,?_,⟨i+1,(z).set (((8*n)-1)-i:Nat) (l.getD (i/8) 0/2^(8*(i%8))%256:Nat),h9,rfl,rfl,e.to _ _,oM,zc,(gE p oM Q (oX K i))⟩,Z.to _ kR⟩
 omega
def win (l:List Nat)(o n:Nat):List Nat:=(l.drop o).take n
theorem bH {l:List Nat}{o n:Nat}(h:o+n<=l.length):(win l o n).length=n:=by unfold win;rw[yY,Am];omega
theorem tk {l:List Nat}{o n j:Nat}(h:j<n):(win l o n).getD j 0=l.getD (o+j) 0:=by unfold win;rw[i7 h,bF]
theorem kB {l:List Nat}{o n i x:Nat}(hi:i<n):win (l.set (o+i) x) o n=(win l o n).set i x:=by
 unfold win
 rw[List.drop_set,if_neg oM,J3,show o+i-o=i by omega]
theorem uJ {l:List Nat}{o n q:Nat}:(win l o n).drop q=win l (o+q) (n-q):=by
 unfold win;rw[List.drop_take,List.drop_drop]
theorem o4 {l:List Nat}{o n m:Nat}(h:m<=n):(win l o n).take m=win l o m:=by
 unfold win;rw[List.take_take,yZ h]
theorem sJ (l:List Nat)(n:Nat)(h:l.length<=n):win l 0 n=l:=by unfold win;rw[yb,z8 h]
theorem Wd.win {l:List Nat}(h:Wd l)(o n:Nat):Wd (win l o n):=Dg.take (Dg.drop h o) n
theorem rO {Z W:List Nat}{i p d a:Nat}(hi:i<Z.length)(inv:2^p*ak 18446744073709551616 (Z.take i)+a=ak 18446744073709551616 (W.take i)+18446744073709551616^i*(W.getD i 0%2^p))
  (f:2^p*d+W.getD i 0%2^p=W.getD i 0+18446744073709551616*(W.getD (i+1) 0%2^p)) :
  2^p*ak 18446744073709551616 ((Z.set i d).take (i+1))+a=ak 18446744073709551616 (W.take (i+1))+18446744073709551616^(i+1)*(W.getD (i+1) 0%2^p):=by
 have e1:=a7 18446744073709551616 (Z.set i d) i;have e2:(Z.set i d).take i=Z.take i:=by rw[J3,List.set_eq_of_length_le];rw[yY];omega
 rw[e2,bG hi,if_pos rfl] at e1
 have e:=a7 18446744073709551616 W i;have c:=congrArg (18446744073709551616^i * ·) f
 simp only[yV] at c
 rw[e1,e,yS,yV];have b:2^p*(18446744073709551616^i*d)=18446744073709551616^i*(2^p*d):=by ac_rfl
 have h:18446744073709551616^i*18446744073709551616*(W.getD (i+1) 0%2^p)=18446744073709551616^i*(18446744073709551616*(W.getD (i+1) 0%2^p)):=by ac_rfl
 rw[b,h]
 omega
theorem wO {X:List Nat}(d:Wd X){k m:Nat}(t:Tz (aF X) k m)(hk:k/64<X.length):aF (X.drop (k/64))=2^(k%64)*m/\(X.drop (k/64)).getD 0 0%2^(k%64)=0:=by
 have h1:aF (X.drop (k/64))=2^(k%64)*m:=by
  rw[ng d oM,t.1,xW k,yW,J4 _ (Nat.pow_pos kD)]
 refine ⟨h1,?_⟩
 have c:aF (X.drop (k/64))=(X.drop (k/64)).getD 0 0+18446744073709551616*ak 18446744073709551616 ((X.drop (k/64)).drop 1):=by
  have:=e9 18446744073709551616 (l:=X.drop (k/64)) (k:=0) (by rw[Am];omega)
  rwa [yb] at this
 have b:(18446744073709551616:Nat)=2^(k%64)*2^(64-k%64):=by rw[<-y8,show k%64+(64-k%64)=64 by omega]
 rw[h1] at c
 have a:(2^(k%64)*m)%2^(k%64)=0:=Nat.mul_mod_right _ _;rw[c] at a
 conv at a=>lhs;rw[b]
 rw[yW,Nat.add_mul_mod_self_left] at a
 exact a
theorem Dt {Z W:List Nat}{p m:Nat}(a:W.length<=Z.length)(inv:2^p*ak 18446744073709551616 (Z.take Z.length)+0=ak 18446744073709551616 (W.take Z.length)+18446744073709551616^Z.length*(W.getD Z.length 0%2^p))(e:aF W=2^p*m):aF Z=m:=by
 rw[yd,z8 a,cA a,G1,y2,ya,ya] at inv
 have e2:ak 18446744073709551616 W=2^p*m:=e;rw[e2] at inv
 exact JZ (y5 p) inv
theorem oU {l X:List Nat}{q i x N:Nat}(a:q+i<l.length)(h:∀ j,i<=j->j<N->l.getD (q+j) 0=X.getD j 0):∀ j,i+1<=j->j<N->(l.set (q+i) x).getD (q+j) 0=X.getD j 0:=fun j h1 b=>by
 rw[bG a,if_neg oM];exact h j oM b
theorem s7 (rb:Nat)(C:List Nat)(o n c x:Nat)(hx:0<x)(hl0:C.length<=1000000000)(D:o+n<=C.length)(hnc:n<=c)(H:Wd C)(J:win C o n=wds x)(w:World)(h:Hp)(g:G w h)(ho:Own w rb 23 (C.flatMap aj))(Y:h[rb]?=some bj)(tb:Tab h):Calls Tryz.prog 158 #[.slice (some ⟨rb,o,none⟩) n c] w (dX rb w h fun v w' _=>∃ z:List Nat,∃ o' n' c':Nat,v=.slice (some ⟨rb,o',none⟩) n' c'/\z.length=C.length/\Wd z/\o'+n'<=z.length/\n'<=c'/\(∃ k m:Nat,Tz x k m/\win z o' n'=wds m)/\Own w' rb 23 (z.flatMap aj)):=by
 have B:UpM [rb] w h w h:=UpM.refl g;obtain ⟨wz,hz,e⟩:=SS.at_ g ho Y;have bb:C.length=C.length:=rfl;replace e:=(e.add (K:=fun S=>Tab S) tb);refine go Tryz.func158 [(0,qS (some ⟨rb,o,none⟩) n c)] rfl (aa e ac (aR (lL e ac (B0 7 0 e (fun _ g_ f_ Q=>qD (some ⟨rb,o,none⟩) c (win C o n) n (bH D) (H.win _ _) (by rw[J,ay];exact hx) (by rw[bH D];omega) _ _ g_ (f_.1) (SlO.win (f:=aj) (d:=0) (b:=rb) (l:=C) (fun _=>rfl) Q o n)) ?_))));rintro _ w1 h2 u3 e ⟨k,m,rfl,L,hkn⟩;replace B:=B.trans (u3.m _);rw[bH D] at hkn
 have hX:=H.win o n;obtain ⟨O,M⟩:=wO hX L (by rw[bH D];omega);rw[uJ] at O M
 obtain ⟨X,hXd⟩:∃ X,X=win C (o+k/64) (n-k/64):=⟨_,rfl⟩;rw[<-hXd] at O M
 have hXl:X.length=n-k/64:=by rw[hXd];exact bH oM
 have hXW:Wd X:=by rw[hXd];exact H.win _ _
 have hXg:∀ j,j<n-k/64->X.getD j 0=C.getD (o+k/64+j) 0:=fun j Y=>by rw[hXd];exact tk Y
 refine lL e ac (aR (lL e aK (lV 10 (nV (k/64)) ?_ (hr:=be (dD (t:=3) (u:=3) (x:=.tmp 9) (y:=.const (iV 64)) (k:=.i64) (a:=(k:Int)) (b:=(64:Int)) kR kR kR oM _) (dl k 64 oM)))));refine JG 11 rb o n c 1 (k/64:Nat) (k/64) (o+(k/64)) (lL e ac (aR (lL e ac (lV 13 (nV (k%64)) ?_ (hr:=be (fR (t:=3) (u:=3) (x:=.tmp 12) (y:=.const (iV 64)) (k:=.i64) (a:=(k:Int)) (b:=(64:Int)) kR kR kR oM _) (dx k 64))))));refine lL e ac (af (aa e [.c,.v (nV (n-(k/64))),.c] (bh ?_)));refine cj _ (CG.loop (fun μ_ Γ w_=>∃ (i:Nat)(l:List Nat)(S:Hp),μ_=(n-k/64)-i/\Γ=[(0,qS (some ⟨rb,(o+(k/64)),none⟩) (n-(k/64)) (c-(k/64))),(2,sZ),(4,nV (k%64)),(15,nV (n-(k/64))),(16,nV i)]/\SS wz hz w_ S [⟨rb,23,(l).flatMap aj⟩] [] [fun S=>Tab S]/\i<=n-k/64/\l.length=C.length/\Wd l/\2^(k%64)*ak 18446744073709551616 ((win l (o+k/64) (n-k/64)).take i)+0=ak 18446744073709551616 (X.take i)+18446744073709551616^i*(X.getD i 0%2^(k%64))/\(∀ j,i<=j->j<n-k/64->l.getD (o+k/64+j) 0=X.getD j 0)/\UpM [rb] w h w_ S) _ ⟨0,C,h2,rfl,rfl,e.to _ _,JL _,rfl,H,(by rw[M];simp[ak]),(fun j _ Y=>(hXg j Y).symm),B⟩ ?_);rintro _ _ w4 ⟨i,l,h5,hm6,rfl,e,hi,hll,hW,inv,I,B⟩;refine aD ?_;cases F:(decide ((i:Int)<((n-(k/64):Nat):Int)))
 .
  have V:=oF F;refine lB 17 F (af (cW (CG.exit ?_)))
  show CG _ _ _ _ _ _ _ _
  refine aa e ac (B0 47 0 e (fun _ g_ f_ Q=>CN (some ⟨rb,(o+k/64),none⟩) (c-(k/64)) (win l (o+k/64) (n-k/64)) (n-k/64) (bH oM) (by rw[bH oM];omega) (by rw[bH oM];omega) _ _ g_ (SlO.win (f:=aj) (d:=0) (b:=rb) (l:=l) (fun _=>rfl) Q (o+k/64) (n-k/64))) ?_);rintro _ w8 h9 u10 e rfl;replace B:=B.trans (u10.m _);refine lL e ac (lN (kX ?_));have U:i=n-k/64:=by omega
  have hZl:(win l (o+k/64) (n-k/64)).length=n-k/64:=bH oM;have hE:=Dt (Z:=win l (o+k/64) (n-k/64)) oM (by rw[hZl,<-U];rw[<-U] at inv;exact inv) O;have hZW:Wd (win l (o+k/64) (n-k/64)):=hW.win _ _;have hwm:=nZ hZW;rw[hE,hZl] at hwm
  have htl:=iO (win l (o+k/64) (n-k/64)) (n-k/64);exact e.retM B [] (qS (some ⟨rb,(o+k/64),none⟩) (tl (win l (o+k/64) (n-k/64)) (n-k/64)) (c-(k/64))) ⟨l,(o+k/64),_,_,rfl,hll,hW,by omega,by omega,⟨k,m,by rw[J,ay] at L;exact L,by rw[hwm];exact (o4 htl).symm⟩,e.own 0⟩
 have V:=oT F;refine lB 17 F (af (cl (cK (cQ (kZ (aa e aK (aR (lL e aK (FK 21 rb (o+(k/64)) (n-(k/64)) (c-(k/64)) 1 (i:Nat) i ((o+(k/64))+i) ?_)))))))));refine lQ 22 0 l aj 1 0 ((o+(k/64))+i) (mV ((l).getD ((o+(k/64))+i) 0)) e oM (lL e ac ?_);have W:X.getD i 0=l.getD (o+k/64+i) 0:=(I i (nR _) oM).symm;have hxi:=hW.get (o+k/64+i);have hdv:=yN (l.getD (o+k/64+i) 0) (2^(k%64));refine lV 24 (mV (((l).getD ((o+(k/64))+i) 0:Nat)/2^(k%64))) ?_ (hr:=gm (t:=23) (u:=3) (x:=.tmp 22) (y:=.tmp 23) (ky:=.i64) (a:=((l).getD ((o+(k/64))+i) 0:Nat)) (n:=(k%64)) kR kR kR oM _);refine FK 25 rb (o+(k/64)) (n-(k/64)) (c-(k/64)) 1 (i:Nat) i ((o+(k/64))+i) (HB 0 l aj 1 ((o+(k/64))+i) (((l).getD ((o+(k/64))+i) 0:Nat)/2^(k%64):Nat) e oM (fun _ pu e=>?_));replace B:=B.put pu (ov.2 rfl) e.g;have zb:((l).set ((o+(k/64))+i) (((l).getD ((o+(k/64))+i) 0:Nat)/2^(k%64):Nat)).length=C.length:=by rw[Gx];exact hll
 replace e:=e.to [⟨rb,23,((l).set ((o+(k/64))+i) (((l).getD ((o+(k/64))+i) 0:Nat)/2^(k%64):Nat)).flatMap aj⟩] [];refine aR (lL e ac (bI 27 ((i:Nat)+1) (i+1) ?_));refine lL e [.c,.v (nV (n-(k/64)))] ?_;cases za:(decide (((i+1:Nat):Int)<((n-(k/64):Nat):Int)))
 .
  have zc:=oF za;refine lB 30 za (ah (cK (kQ (bI 45 ((i:Nat)+1) (i+1) ?_))));refine lL e ac (lD ?_);intro a_ ka;refine ⟨_,_,?_,⟨i+1,(l).set ((o+(k/64))+i) (((l).getD ((o+(k/64))+i) 0:Nat)/2^(k%64):Nat),h5,rfl,rfl,e.to _ _,oM,zb,(hW.set _ oM),(by rw[kB oM];exact rO (by rw[bH oM];omega) inv (by rw[W,cA (l:=X) (show X.length<=i+1 by omega),G1,y2,ya];exact Nat.div_add_mod _ _)),(oU oM I),B⟩,ka.to _ kR⟩
  omega
 have zc:=oT za;refine lB 30 za (au (mq ⟨[],none⟩ 13 mixed ?_));replace B:=B.trans ((Up.drew (Up.refl e.g)).m _);replace e:=e.drew;refine aV 0 31 (qS (some ⟨rb,(o+(k/64)),none⟩) (n-(k/64)) (c-(k/64))) (aV 1 32 (nV i) (Ja 2 33 rb (o+(k/64)) (n-(k/64)) (c-(k/64)) 1 (i:Nat) i ((o+(k/64))+i) (aQ 3 34 0 ((l).set ((o+(k/64))+i) (((l).getD ((o+(k/64))+i) 0:Nat)/2^(k%64):Nat)) aj 1 0 ((o+(k/64))+i) (mV (((l).set ((o+(k/64))+i) (((l).getD ((o+(k/64))+i) 0:Nat)/2^(k%64):Nat)).getD ((o+(k/64))+i) 0)) e oM (aV 4 35 (qS (some ⟨rb,(o+(k/64)),none⟩) (n-(k/64)) (c-(k/64))) (aV 5 36 (nV i) (aV 6 37 (nV (i+1)) ?_ (hv:=fun _=>rS (((i:Nat)+1)) kR ((gj oM oM).trans oM))))))));refine Ja 7 38 rb (o+(k/64)) (n-(k/64)) (c-(k/64)) 1 (i+1:Nat) (i+1) ((o+(k/64))+(i+1)) (aQ 8 39 0 ((l).set ((o+(k/64))+i) (((l).getD ((o+(k/64))+i) 0:Nat)/2^(k%64):Nat)) aj 1 0 ((o+(k/64))+(i+1)) (mV (((l).set ((o+(k/64))+i) (((l).getD ((o+(k/64))+i) 0:Nat)/2^(k%64):Nat)).getD ((o+(k/64))+(i+1)) 0)) e oM (aV 9 40 (nV (k%64)) (aV 10 41 (nV (64-(k%64))) ?_ (hv:=fun _=>rS ((64-(k%64:Nat))) kR ((gj oM oM).trans oM)))));refine aV 11 42 (mV ((((l).set ((o+(k/64))+i) (((l).getD ((o+(k/64))+i) 0:Nat)/2^(k%64):Nat)).getD ((o+(k/64))+(i+1)) 0:Nat)*2^(64-(k%64))%18446744073709551616)) ?_ (hv:=fun _=>ig (t:=23) (u:=3) (x:=.tmp 39) (y:=.tmp 41) (ky:=.i64) (a:=(((l).set ((o+(k/64))+i) (((l).getD ((o+(k/64))+i) 0:Nat)/2^(k%64):Nat)).getD ((o+(k/64))+(i+1)) 0:Nat)) (n:=(64-(k%64))) kR kR kR _);have hXn:X.getD (i+1) 0=l.getD (o+k/64+(i+1)) 0:=(I (i+1) oM oM).symm;obtain ⟨hS1,hS2,hS3⟩:=oy (x:=l.getD (o+k/64+i) 0) (y:=l.getD (o+k/64+(i+1)) 0) (p:=k%64) oM hxi;have hgs:=bG (l:=l) (k:=o+k/64+i) (j:=o+k/64+i) (x:=l.getD (o+k/64+i) 0/2^(k%64)) oM;rw[if_pos rfl] at hgs
 have hgn:=bG (l:=l) (k:=o+k/64+i) (j:=o+k/64+(i+1)) (x:=l.getD (o+k/64+i) 0/2^(k%64)) oM;rw[if_neg oM] at hgn
 refine aV 12 43 (mV (l.getD (o+k/64+i) 0/2^(k%64)+l.getD (o+k/64+(i+1)) 0*2^(64-k%64)%18446744073709551616)) ?_ (hv:=fun _=>be (jC (t:=23) (u:=23) (x:=.tmp 34) (y:=.tmp 42) (a:=(((l).set ((o+(k/64))+i) (((l).getD ((o+(k/64))+i) 0:Nat)/2^(k%64):Nat)).getD ((o+(k/64))+i) 0:Nat)) (b:=((((l).set ((o+(k/64))+i) (((l).getD ((o+(k/64))+i) 0:Nat)/2^(k%64):Nat)).getD ((o+(k/64))+(i+1)) 0:Nat)*2^(64-(k%64))%18446744073709551616:Nat)) kR kR kR oM oM _) (by rw[hgs,hgn,hS1]));refine Js 13 44 rb (o+(k/64)) (n-(k/64)) (c-(k/64)) 1 (i:Nat) i ((o+(k/64))+i) (Jp 14 0 ((l).set ((o+(k/64))+i) (((l).getD ((o+(k/64))+i) 0:Nat)/2^(k%64):Nat)) aj 1 ((o+(k/64))+i) (l.getD (o+k/64+i) 0/2^(k%64)+l.getD (o+k/64+(i+1)) 0*2^(64-k%64)%18446744073709551616:Nat) e oM (fun _ pu e=>?_));replace B:=B.put pu (ov.2 rfl) e.g;have zd:(((l).set ((o+(k/64))+i) (((l).getD ((o+(k/64))+i) 0:Nat)/2^(k%64):Nat)).set ((o+(k/64))+i) (l.getD (o+k/64+i) 0/2^(k%64)+l.getD (o+k/64+(i+1)) 0*2^(64-k%64)%18446744073709551616:Nat)).length=C.length:=by rw[Gx];exact zb
 replace e:=e.to [⟨rb,23,(((l).set ((o+(k/64))+i) (((l).getD ((o+(k/64))+i) 0:Nat)/2^(k%64):Nat)).set ((o+(k/64))+i) (l.getD (o+k/64+i) 0/2^(k%64)+l.getD (o+k/64+(i+1)) 0*2^(64-k%64)%18446744073709551616:Nat)).flatMap aj⟩] [];refine tN (kQ (bI 45 ((i:Nat)+1) (i+1) ?_));refine lL e ac (lD ?_);intro a_ ka;refine ⟨_,_,?_,⟨i+1,((l).set ((o+(k/64))+i) (((l).getD ((o+(k/64))+i) 0:Nat)/2^(k%64):Nat)).set ((o+(k/64))+i) (l.getD (o+k/64+i) 0/2^(k%64)+l.getD (o+k/64+(i+1)) 0*2^(64-k%64)%18446744073709551616:Nat),h5,rfl,rfl,e.to _ _,oM,zd,((hW.set _ oM).set _ hS2),(by rw[JN,kB oM];exact rO (by rw[bH oM];omega) inv (by rw[W,hXn];exact hS3)),(by rw[JN];exact oU oM I),B⟩,ka.to _ kR⟩
 omega
theorem Hf (rb:Nat)(u:List Nat)(o n c x:Nat)(hl0:u.length<=1000000000)(hon:o+n<=u.length)(hnc:n<=c)(hW0:Wd u)(F:win u o n=wds x)(D:Z9)(d y m:Nat)(hm:(wds y).length=m)(hmd:m<=d)(hyx:y<=x)(w:World)(h:Hp)(g:G w h)(ho:Own w rb 23 (u.flatMap aj))(hj:h[rb]?=some bj)(hD:SlO 1 aj 0 h D (wds y)):Calls Tryz.prog 160 #[.slice (some ⟨rb,o,none⟩) n c,.slice D m d] w (dX rb w h fun v w' _=>∃ z:List Nat,∃ o' Y c':Nat,v=.slice (some ⟨rb,o',none⟩) Y c'/\z.length=u.length/\Wd z/\o'+Y<=z.length/\Y<=c'/\win z o' Y=wds (x-y)/\Own w' rb 23 (z.flatMap aj)):=by
 have e:UpM [rb] w h w h:=UpM.refl g;obtain ⟨wz,hz,a⟩:=SS.at_ g ho hj;have bl:u.length=u.length:=rfl;replace a:=a.aS hD;have hwn:n=(wds x).length:=by rw[<-F,bH hon]
 have hlm:=cJ hyx;refine go Tryz.func160 [(0,qS (some ⟨rb,o,none⟩) n c),(1,qS D m d)] rfl (aa a ac (aR (lL a ac (af (aa a [.c,.v (nV n),.c] (bh ?_))))));refine cj _ (CG.loop (fun μ_ Γ w_=>∃ (i:Nat)(l:List Nat)(J:Nat)(X:Hp),μ_=n-i/\Γ=[(0,qS (some ⟨rb,o,none⟩) n c),(1,qS D m d),(4,sZ),(9,nV n),(10,nV i),(5,mV J)]/\SS wz hz w_ X [⟨rb,23,(l).flatMap aj⟩] [] [fun X=>SlO 1 aj 0 X D (wds y)]/\i<=n/\l.length=u.length/\Wd l/\J<=1/\ak 18446744073709551616 (win l o n)+ak 18446744073709551616 ((wds y).take i)=x+18446744073709551616^i*J/\UpM [rb] w h w_ X) _ ⟨0,u,0,h,rfl,rfl,a.to _ _,JL _,rfl,hW0,oM,(by have hx_:ak 18446744073709551616 (wds x)=x:=ay x;rw[F,hx_];simp[ak]),e⟩ ?_);rintro _ _ w1 ⟨i,l,J,h2,hm3,rfl,a,hi,H,W,hbo,inv,e⟩;have hlk:=W.get (o+i);have hyk:=(Wd.wds y).get i;have K:=tk (l:=l) (o:=o) (n:=n) (j:=i);refine aD ?_;cases B:(decide ((i:Int)<(n:Int)))
 .
  have M:=oF B;refine lB 11 B (af (cW (CG.exit ?_)))
  show CG _ _ _ _ _ _ _ _
  refine aa a ac (B0 36 0 a (fun _ g_ f_ sg_=>CN (some ⟨rb,o,none⟩) c (win l o n) n (bH oM) (by rw[bH oM];omega) (by rw[bH oM];omega) _ _ g_ (SlO.win (f:=aj) (d:=0) (b:=rb) (l:=l) (fun _=>rfl) sg_ o n)) ?_);rintro _ w5 h6 u7 a rfl;replace e:=e.trans (u7.m _);refine lL a ac (lN (kX ?_));have Z:i=n:=by omega
  have L:(win l o n).length=n:=bH oM;rw[z8 (show (wds y).length<=i by omega),Z] at inv
  have O:Wd (win l o n):=W.win _ _;have hE:aF (win l o n)=x-y:=nW O (by rw[L];have hb_:ak 18446744073709551616 (wds y)=y:=ay y;rw[hb_] at inv;exact inv) oM hbo;have Q:=nZ O;rw[hE,L] at Q
  have htl:=iO (win l o n) n;exact a.retM e [] (qS (some ⟨rb,o,none⟩) (tl (win l o n) n) c) ⟨l,o,_,_,rfl,H,W,by omega,by omega,(by rw[Q];exact (o4 htl).symm),a.own 0⟩
 have M:=oT B;refine lB 11 B (af (cl (cK (cQ (kZ (aa a aK (aR (lL a ac (af (aa a [.c,.c,.v (nV m)] ?_))))))))));cases C:(decide ((i:Int)<(m:Int)))
 .
  have U:=oF C;refine lB 16 C (ah (cK (kQ (lL a pR (FK 26 rb o n c 1 (i:Nat) i (o+i) ?_)))));refine lQ 27 0 l aj 1 0 (o+i) (mV ((l).getD (o+i) 0)) a oM (lL a aK ?_);obtain ⟨I,za,bn,bd,bf,V⟩:=iU ((l).getD (o+i) 0) 0 J wM wM oM;refine lV 30 (.tuple #[mV I,mV za]) ?_ (hr:=dK kR (V _));refine lL a [.c,.v (mV I),.v (mV za)] (FK 33 rb o n c 1 (i:Nat) i (o+i) ?_);refine HB 0 l aj 1 (o+i) I a oM (fun _ pu a=>?_);replace e:=e.put pu (ov.2 rfl) a.g;have zc:((l).set (o+i) I).length=u.length:=by rw[Gx];exact H
  replace a:=a.to [⟨rb,23,((l).set (o+i) I).flatMap aj⟩] [];refine lL a ac (lN (kQ (bI 34 ((i:Nat)+1) (i+1) ?_)));refine lL a ac (lD ?_);intro a_ ka;refine ⟨_,_,?_,⟨i+1,(l).set (o+i) I,za,h2,rfl,rfl,a.to _ _,oM,zc,(W.set _ oM),oM,(by rw[kB oM];exact gz (by rw[bH oM];omega) inv (by rw[K oM];first|omega|(have hy0:=cA (l:=wds y) (k:=i) oM;omega))),e⟩,ka.to _ kR⟩
  omega
 have U:=oT C;refine lB 16 C (au (kQ (lL a aK (lX 19 D m d 1 (i:Nat) i ((a.f.1).ok oM) ?_))));refine lH 20 (mV ((wds y).getD i 0)) a ((a.f.1).el i oM) (lL a ac (lN (kQ (lL a pR (FK 26 rb o n c 1 (i:Nat) i (o+i) ?_)))));refine lQ 27 0 l aj 1 0 (o+i) (mV ((l).getD (o+i) 0)) a oM (lL a aK ?_);obtain ⟨p,zb,bb,bk,bm,S⟩:=iU ((l).getD (o+i) 0) ((wds y).getD i 0) J wM wM oM;refine lV 30 (.tuple #[mV p,mV zb]) ?_ (hr:=dK kR (S _));refine lL a [.c,.v (mV p),.v (mV zb)] (FK 33 rb o n c 1 (i:Nat) i (o+i) ?_);refine HB 0 l aj 1 (o+i) p a oM (fun _ pu a=>?_);replace e:=e.put pu (ov.2 rfl) a.g;have zd:((l).set (o+i) p).length=u.length:=by rw[Gx];exact H
 replace a:=a.to [⟨rb,23,((l).set (o+i) p).flatMap aj⟩] [];refine lL a ac (lN (kQ (bI 34 ((i:Nat)+1) (i+1) ?_)));refine lL a ac (lD ?_);intro a_ ka;refine ⟨_,_,?_,⟨i+1,(l).set (o+i) p,zb,h2,rfl,rfl,a.to _ _,oM,zd,(W.set _ oM),oM,(by rw[kB oM];exact gz (by rw[bH oM];omega) inv (by rw[K oM];first|omega|(have hy0:=cA (l:=wds y) (k:=i) oM;omega))),e⟩,ka.to _ kR⟩
 omega
theorem Tz.le {n k m:Nat}(t:Tz n k m):m<=n:=by rw[t.1];exact J5 m (y5 k)
theorem lU (a b:Nat):(bV a b=0/\a=b)\/(bV a b = -1/\a<b)\/(bV a b=1/\b<a):=by
 rcases Nat.lt_trichotomy a b with h|h|h
 ·exact .inr (.inl ⟨dw h,h⟩)
 ·exact .inl ⟨io h,h⟩
 ·exact .inr (.inr ⟨eZ h,h⟩)
theorem tU (A:Z9)(c:Nat)(D:Z9)(d:Nat)(x y n a:Nat)(f e:List Nat)(p:f=wds x)(z:e=wds y)(o:f.length=n)(b:e.length=a)(i:n<=1000000000)(l:a<=1000000000)(w:World)(h:Hp)(g:G w h)(j:SlO 1 aj 0 h A f)(u:SlO 1 aj 0 h D e):CV 159 #[.slice A n c,.slice D a d] w h (iV (bV x y)):=by
 subst p z;exact wW A c D d x y n a o b oM oM w h g j u
theorem F5 (A:Z9)(c:Nat)(l:List Nat)(n x:Nat)(b:l=wds x)(d:l.length=n)(e:n<=1000000000)(w:World)(h:Hp)(g:G w h)(a:SlO 1 aj 0 h A l):CV 161 #[.slice A n c] w h (nv x):=by
 subst b;have:=Aj A c (wds x) n d (Wd.wds x) oM w h g a
 rwa [ay] at this
theorem wR (rb:Nat)(a:List Nat)(o n c x:Nat)(l:a.length<=1000000000)(f:o+n<=a.length)(p:n<=c)(i:Wd a)(b:win a o n=wds x)(D:Z9)(d y m:Nat)(u:List Nat)(I:u=wds y)(hm:u.length=m)(j:m<=d)(B:y<=x)(w:World)(h:Hp)(g:G w h)(F:Own w rb 23 (a.flatMap aj))(C:h[rb]?=some bj)(H:SlO 1 aj 0 h D u):Calls Tryz.prog 160 #[.slice (some ⟨rb,o,none⟩) n c,.slice D m d] w (dX rb w h fun v w' _=>∃ z:List Nat,∃ o' e c':Nat,v=.slice (some ⟨rb,o',none⟩) e c'/\z.length=a.length/\Wd z/\o'+e<=z.length/\e<=c'/\win z o' e=wds (x-y)/\Own w' rb 23 (z.flatMap aj)):=by
 subst I;exact Hf rb a o n c x l f p i b D d y m hm j B w h g F C H
theorem AX (x y:Nat)(hx:0<x)(hy:0<y)(hlx:(wds x).length<=1000000000)(hly:(wds y).length<=1000000000)(w:World)(h:Hp)(g:G w h)(tb:Tab h):CV 137 #[nv x,nv y] w h (nv (J0 x y)):=by
 have e:=((sS g).add (K:=fun h_=>Tab h_) tb);have hpx:=hx;have hpy:=hy;refine go Tryz.func137 [(0,nv x),(1,nv y)] rfl (aD (lA 2 25 (nc x) e (fun W w2 h3 e=>lA 3 25 (nc y) e (fun X w5 h6 e=>lA 4 25 ([uV 0,eS]) e (fun V w8 h9 e=>af ?_)))));obtain ⟨K_,hK_⟩:∃ K_,K_=w8.heap.size:=⟨_,rfl⟩;have f7:V<K_:=by rw[hK_];exact eE e 0
 have b2:X<K_:=by rw[hK_];exact eE e 1
 have cb:W<K_:=by rw[hK_];exact eE e 2
 refine mq ⟨[],some (K_,[])⟩ 0 mixed ?_;have hq:=e.g.size;replace e:=e.drew;have U:=JP hK_;refine zO 0 10 [(2,0,2)] (nv x) rfl U e (fun p hp=>by obtain rfl:=ov.1 hp;exact cb) (zO 2 12 [(1,0,2)] (nv y) rfl U e (fun p hp=>by obtain rfl:=ov.1 hp;exact b2) (rC 1 11 (wE x oM oM _ _ e.g) rfl U ?_));rintro _ _ _ u12 U ⟨I,rfl,fb,c5,ht⟩;obtain ⟨_,e,-,-⟩:=e.take u12 fb c5;replace e:=e.to [⟨I,23,(wds x).flatMap aj⟩,⟨V,25,[uV 0,eS]⟩,⟨X,25,nc y⟩,⟨W,25,nc x⟩] [];refine rC 3 13 (wE y oM oM _ _ e.g) rfl U ?_;rintro _ _ _ u16 U ⟨L,rfl,c6,ft,h4⟩;obtain ⟨_,e,-,-⟩:=e.take u16 c6 ft;replace e:=e.to [⟨L,23,(wds y).flatMap aj⟩,⟨I,23,(wds x).flatMap aj⟩,⟨V,25,[uV 0,eS]⟩,⟨X,25,nc y⟩,⟨W,25,nc x⟩] [];refine zV 4 5 (qS (sB I) ((wds x).length) ((wds x).length)) (zV 5 6 (qS (sB L) ((wds y).length) ((wds y).length)) (xL (lL e ac (IP 15 1 e (fun _ Z f_ S=>qD (sB I) (wds x).length (wds x) (wds x).length rfl (Wd.wds x) (by rw[ay];omega) oM _ _ Z (f_.1) (SlO.of_flat (sz:=1) (f:=aj) (d:=0) (b:=I) (o:=0) (l:=wds x) (fun _=>rfl) S)) ?_))));rintro _ _ _ e ⟨kx,mx,rfl,htx,hkx⟩;rw[ay] at htx
 refine lL e ac (IP 17 0 e (fun _ Z f_ S=>qD (sB L) (wds y).length (wds y) (wds y).length rfl (Wd.wds y) (by rw[ay];omega) oM _ _ Z (f_.1) (SlO.of_flat (sz:=1) (f:=aj) (d:=0) (b:=L) (o:=0) (l:=wds y) (fun _=>rfl) S)) ?_);rintro _ _ _ e ⟨ky,my,rfl,hty,hky⟩;rw[ay] at hty
 refine lV 18 (nV (min kx ky)) ?_ (hr:=be (n:=if (ky:Int)<(kx:Int) then (ky:Int) else (kx:Int)) kR (by split<;>omega));refine lL e ac (aR (lL e ac (fD 20 (s7 I (wds x) 0 ((wds x).length) ((wds x).length) x hpx oM oM (nR _) (Wd.wds x) (sJ _ _ (nR _)) _ _ e.g (e.own 1) (e.jk 1) e.f.1) ?_)));rintro _ _ _ u27 ⟨z24,o24,n24,zl,rfl,f9,bx,cw,bm,⟨h2,d0,u,cx⟩,dn⟩;replace e:=(e.stepM 1 u27 dn).to [⟨L,23,(wds y).flatMap aj⟩,⟨I,23,(z24).flatMap aj⟩,⟨V,25,[uV 0,eS]⟩,⟨X,25,nc y⟩,⟨W,25,nc x⟩] [];have cp:=u.odd_pos;have hc:=u.le;refine lL e ac (fD 22 (s7 L (wds y) 0 ((wds y).length) ((wds y).length) y hpy oM oM (nR _) (Wd.wds y) (sJ _ _ (nR _)) _ _ e.g (e.own 0) (e.jk 0) e.f.1) ?_);rintro _ _ zm u31 ⟨z28,o28,n28,zn,rfl,f2,ch,cc,cd,⟨hj,fm,j,cz⟩,ds⟩;replace e:=(e.stepM 0 u31 ds).to [⟨L,23,(z28).flatMap aj⟩,⟨I,23,(z24).flatMap aj⟩,⟨V,25,[uV 0,eS]⟩,⟨X,25,nc y⟩,⟨W,25,nc x⟩] [];have cy:=j.odd_pos;have hd:=j.le;refine lL e aK (af (kZ ?_));refine cj _ (CG.loop (fun μ_ Γ w_=>∃ (J:Nat)(O:List Nat)(o1:Nat)(n1:Nat)(c1:Nat)(Q:Nat)(l2:List Nat)(o2:Nat)(n2:Nat)(c2:Nat)(D:Nat)(y1:Nat)(h_:Hp),μ_=D+y1/\Γ=[(4,pB V),(7,nV (min kx ky)),(5,qS (some ⟨J,o1,none⟩) n1 c1),(6,qS (some ⟨Q,o2,none⟩) n2 c2)]/\SS w h w_ h_ [⟨Q,23,(l2).flatMap aj⟩,⟨J,23,(O).flatMap aj⟩,⟨V,25,[uV 0,eS]⟩,⟨X,25,nc y⟩,⟨W,25,nc x⟩] [] [fun h_=>Tab h_]/\O.length<=1000000000/\Wd O/\o1+n1<=O.length/\n1<=c1/\win O o1 n1=wds D/\0<D/\l2.length<=1000000000/\Wd l2/\o2+n2<=l2.length/\n2<=c2/\win l2 o2 n2=wds y1/\0<y1/\D%2=1/\y1%2=1/\J0 D y1*2^min kx ky=J0 x y) _ ⟨I,z24,o24,n24,zl,L,z28,o28,n28,zn,d0,fm,zm,rfl,rfl,e.to _ _,oM,bx,cw,bm,cx,cp,oM,ch,cc,cd,cz,cy,u.2,j.2,(by rw[(htx.uniq u).1,(hty.uniq j).1];exact (uF u j).symm)⟩ ?_);rintro _ _ _ ⟨J,O,o1,n1,c1,Q,l2,o2,n2,c2,D,y1,_,hn,rfl,e,hl1,hW1,C,Y,i,hx1,hl2,hW2,M,bb,B,hy1,hxo,hyo,hG⟩;have hh:=lU D y1;have df:=congrArg J6 i;rw[bH C] at df
 have c4:=congrArg J6 B;rw[bH M] at c4
 refine kZ (aa e aK (HR 25 1 0 e (fun _ Z f_ S sh_=>tU (some ⟨J,o1,none⟩) c1 (some ⟨Q,o2,none⟩) c2 D y1 n1 n2 (win O o1 n1) (win l2 o2 n2) i B (bH C) (bH M) oM oM _ _ Z (SlO.win (f:=aj) (d:=0) (b:=J) (l:=O) (fun _=>rfl) S o1 n1) (SlO.win (f:=aj) (d:=0) (b:=Q) (l:=l2) (fun _=>rfl) sh_ o2 n2)) ?_));rintro _ _ _ e rfl;refine lL e ac (af (aa e ac ?_));cases za:((bV D y1:Int) == (0:Int))
 .
  have zd:=ag za;refine lB 27 za (ah (cK (cQ (aa e ac ?_))));cases zb:(decide ((bV D y1:Int)<(0:Int)))
  .
   have ze:=oF zb;refine lB 29 zb (ah (cK (kQ (lL e aK (Ht 34 1 0 e (fun _ Z f_ hj_ sh_=>wR J O o1 n1 c1 D oM C Y hW1 i (some ⟨Q,o2,none⟩) c2 y1 n2 (win l2 o2 n2) B (bH M) bb oM _ _ Z (e.own 1) hj_ (SlO.win (f:=aj) (d:=0) (b:=Q) (l:=l2) (fun _=>rfl) sh_ o2 n2)) ?_)))));rintro _ _ _ u44 ⟨s41,c8,dc,fp,rfl,f1,b5,cf,b6,cm,zi⟩;replace e:=(e.stepM 1 u44 zi).to [⟨Q,23,(l2).flatMap aj⟩,⟨J,23,(s41).flatMap aj⟩,⟨V,25,[uV 0,eS]⟩,⟨X,25,nc y⟩,⟨W,25,nc x⟩] [];refine fD 35 (s7 J s41 c8 dc fp (D-y1) oM oM cf b6 b5 cm _ _ e.g (e.own 1) (e.jk 1) e.f.1) ?_;rintro _ _ zo u48 ⟨z45,o45,n45,zp,rfl,f8,c3,cr,b0,⟨hl,d2,F,bl⟩,db⟩;replace e:=(e.stepM 1 u48 db).to [⟨Q,23,(l2).flatMap aj⟩,⟨J,23,(z45).flatMap aj⟩,⟨V,25,[uV 0,eS]⟩,⟨X,25,nc y⟩,⟨W,25,nc x⟩] [];have b9:=F.odd_pos;have f0:=F.le;refine lL e ac (lD ?_);intro a_ ka;refine ⟨_,_,?_,⟨J,z45,o45,n45,zp,Q,l2,o2,n2,c2,d2,y1,zo,rfl,rfl,e.to _ _,oM,c3,cr,b0,bl,b9,oM,hW2,M,bb,B,hy1,F.2,hyo,(by rw[sR oM hyo F];exact hG)⟩,ka.to _ kR⟩
   omega
  have ze:=oT zb;refine lB 29 zb (au (kQ (lL e pR (lN (kQ (lL e aK (Ht 34 0 1 e (fun _ Z f_ hj_ sh_=>wR Q l2 o2 n2 c2 y1 oM M bb hW2 B (some ⟨J,o1,none⟩) c1 D n1 (win O o1 n1) i (bH C) Y oM _ _ Z (e.own 0) hj_ (SlO.win (f:=aj) (d:=0) (b:=J) (l:=O) (fun _=>rfl) sh_ o1 n1)) ?_)))))));rintro _ _ _ u67 ⟨s64,d1,c9,c7,rfl,fv,bq,cq,bz,bn,zj⟩;replace e:=(e.stepM 0 u67 zj).to [⟨Q,23,(s64).flatMap aj⟩,⟨J,23,(O).flatMap aj⟩,⟨V,25,[uV 0,eS]⟩,⟨X,25,nc y⟩,⟨W,25,nc x⟩] [];refine fD 35 (s7 Q s64 d1 c9 c7 (y1-D) oM oM cq bz bq bn _ _ e.g (e.own 0) (e.jk 0) e.f.1) ?_;rintro _ _ zq u71 ⟨z68,o68,n68,zr,rfl,f6,bf,bk,b3,⟨hw,fn,H,bt⟩,dp⟩;replace e:=(e.stepM 0 u71 dp).to [⟨Q,23,(z68).flatMap aj⟩,⟨J,23,(O).flatMap aj⟩,⟨V,25,[uV 0,eS]⟩,⟨X,25,nc y⟩,⟨W,25,nc x⟩] [];have bd:=H.odd_pos;have f3:=H.le;refine lL e ac (lD ?_);replace e:=e.perm (List.Perm.swap _ _ _);intro a_ ka;refine ⟨_,_,?_,⟨Q,z68,o68,n68,zr,J,O,o1,n1,c1,fn,D,zq,rfl,rfl,e.to _ _,oM,bf,bk,b3,bt,bd,oM,hW1,C,Y,i,hx1,H.2,hxo,(by rw[sR oM hxo H,JM];exact hG)⟩,ka.to _ kR⟩
  omega
 have zd:=eq_of_beq za;refine lB 27 za (au (CG.exit ?_))
 show CG _ _ _ _ _ _ _ _
 refine aa e ac (IP 37 1 e (fun _ Z f_ S=>F5 (some ⟨J,o1,none⟩) c1 (win O o1 n1) n1 D i (bH C) oM _ _ Z (SlO.win (f:=aj) (d:=0) (b:=J) (l:=O) (fun _=>rfl) S o1 n1)) ?_);rintro _ _ _ e rfl;refine lA 9 25 ([uV 0,eS]) e (fun zg _ zs e=>lP 0 0 (nc D) e (fun _ e=>af (kZ ?_)));refine cj _ (CG.loop (fun μ_ Γ w_=>∃ (z:Int)(a:Nat)(h_:Hp),μ_=z.toNat/\Γ=[(4,pB V),(9,pB zg),(7,iV z)]/\SS w h w_ h_ [⟨zg,25,nc a⟩,⟨Q,23,(l2).flatMap aj⟩,⟨J,23,(O).flatMap aj⟩,⟨V,25,[uV 0,eS]⟩,⟨X,25,nc y⟩,⟨W,25,nc x⟩] [] [fun h_=>Tab h_]/\z<=64000000000/\a*2^z.toNat=J0 x y) _ ⟨((min kx ky:Nat):Int),D,zs,rfl,rfl,e.to _ _,oM,(by rw[show D=y1 by omega,Nat.gcd_self] at hG;rw[show D=y1 by omega];rw[show (((min kx ky:Nat):Int)).toNat=min kx ky by omega];exact hG)⟩ ?_);rintro _ _ _ ⟨z,a,_,h5,rfl,e,hz,ha⟩;refine cQ (aa e ac ?_);cases zc:(decide ((0:Int)<(z:Int)))
 .
  have zf:=oF zc;refine lB 39 zc (ah (CG.exit ?_))
  show CG _ _ _ _ _ _ _ _
  exact aa e [.o (nv a) 0 0 2] (lP 3 0 (nc a) e (fun _ e=>ae e [(3,0,2)] (nv a) (by rw[show z.toNat=0 by omega,JJ,z2] at ha;rw[ha])))
 have zf:=oT zc;refine lB 39 zc (au (cK (cQ (kZ (kQ (lL e [.o (nv a) 0 0 2,.c] (lV 44 (nV (min z.toNat 65536)) ?_ (hr:=be (n:=if (65536:Int)<z then (65536:Int) else z) kR (by split<;>omega)))))))));refine am 45 e (Dx a (min z.toNat 65536) (by have:=cJ (show a<=x by exact eu (Nat.le_mul_of_pos_right a (y5 z.toNat)) (by rw[ha];exact J7 y hx));omega) oM _ _ e.g) (fun _ zk e=>lP 0 0 (nc (a*2^min z.toNat 65536)) e (fun _ e=>lN (kQ (lL e ac (lI 41 (z-65536) ?_)))));refine lL e ac (lD ?_);intro a_ ka;refine ⟨_,_,?_,⟨z-65536,a*2^min z.toNat 65536,zk,rfl,rfl,e.to _ _,oM,(by rw[yW,<-y8,show min z.toNat 65536+(z-65536).toNat=z.toNat by omega];exact ha)⟩,ka.to _ kR⟩
 omega
theorem lj (n:Nat):(n=0/\nb n=0)\/(0<n/\0<nb n):=by
 rcases yA n with h|h
 ·subst h;exact .inl ⟨rfl,rfl⟩
 ·exact .inr ⟨h,(cC h).2.2⟩
theorem jh (x y:Nat):J0 y (x%y)=J0 x y:=by rw[JM y,<-Nat.gcd_rec,JM]
theorem Es (n:Nat)(w:World)(h:Hp)(g:G w h):CR 136 #[nv n] w h (fun v _=>∃ s:Nat,∃ ok:Bool,v=.tuple #[mV s,.bool ok]/\(ok=true->s=n/\n<18446744073709551616)):=by
 rcases eb n 18446744073709551616 with hn|hn
 ·refine (sn n hn w h g).mono ?_
  rintro _ w' ⟨_,a,rfl,u,rfl⟩;exact ⟨_,a,rfl,u,n,true,rfl,fun _=>⟨rfl,hn⟩⟩
 ·refine (AA n hn w h g).mono ?_
  rintro _ w' ⟨_,a,rfl,u,rfl⟩;exact ⟨_,a,rfl,u,0,false,rfl,fun e=>by cases e⟩
theorem IS (a b:Int)(hla:(wds (ab a)).length<=1000000000)(hlb:(wds (ab b)).length<=1000000000)(w:World)(h:Hp)(g:G w h)(tb:Tab h):CV 112 #[iv a,iv b] w h (nv (J0 (ab a) (ab b))):=by
 have d:=((sS g).add (K:=fun l=>Tab l) tb);refine go Tryz.func112 [(0,iv a),(1,iv b)] rfl (aD (lA 2 27 (ic a) d (fun b1 w2 h3 d=>lA 3 27 (ic b) d (fun b4 w5 h6 d=>lA 4 25 ([uV 0,eS]) d (fun U w8 h9 d=>af ?_)))));have B:=d;refine CJ 6 [⟨4,5,.cells (J8 [uV 0,eS]) 25 (0,0)⟩,⟨5,6,.cells (J8 [uV 0,eS]) 25 (0,0)⟩] [] mixed d (bv (dM kR (fun _ _=>by kernel_rfl)) (bv (dM kR (fun _ _=>by kernel_rfl)) aq)) (eV 0 14 (qP b1 1) (eO 1 15 [(2,1,2)] (nv (ab a)) d (eV 2 16 (qP b4 1) (vf 3 17 [(1,1,2)] (nv (ab b)) B d (EW B d 25 [uV 0,eS] 25 [uV 0,eS] (fun _ _ I J M L d=>tP 6 0 0 (nc (ab a)) d (fun _ d=>?_) (hz:=iC M)))))));refine tP 7 1 0 (nc (ab b)) d (fun _ d=>?_) (hz:=iC L);refine tN (CG.join (fun Γ X=>∃ (x:Nat)(y:Nat)(l:Hp),Γ=[(4,pB U),(6,pB J),(5,pB I)]/\SS w h X l [⟨I,25,nc x⟩,⟨J,25,nc y⟩,⟨U,25,[uV 0,eS]⟩,⟨b4,27,ic b⟩,⟨b1,27,ic a⟩] [] [fun l=>Tab l]/\(wds x).length<=1000000000/\(wds y).length<=1000000000/\J0 x y=J0 (ab a) (ab b)) ?_ ?_)
 .
  refine aa d [.o (nv (ab a)) 0 0 2,.o (nv (ab b)) 1 0 2] (am 20 d (lf (ab a) (ab b) aM aM _ _ d.g) (fun _ zm d=>?_));have hcm:=lU (ab a) (ab b);cases O:(decide ((bV (ab a) (ab b):Int)<(0:Int)))
  .
   have zi:=oF O;refine lB 21 O (ah (CG.skip ?_));intro a_ H;exact ⟨_,⟨(ab a),(ab b),zm,rfl,d.to _ _,aM,aM,(by first|rfl|exact JM _ _)⟩,H.to _ kR⟩
  have zi:=oT O;refine lB 21 O (au (kQ (lL d [.o (nv (ab b)) 1 0 2,.o (nv (ab a)) 0 0 2] (lP 0 0 (nc (ab b)) d (fun _ d=>lP 1 0 (nc (ab a)) d (fun _ d=>lD ?_))))));intro a_ H;exact ⟨_,⟨(ab b),(ab a),zm,rfl,d.to _ _,aM,aM,(by first|rfl|exact JM _ _)⟩,H.to _ kR⟩
 rintro _ _ ⟨x,y,_,rfl,d,hlx,hly,F⟩;refine cQ (aa d [.o (nv y) 1 0 2] (am 25 d (fg y (by first|assumption|exact aA (J9 (ys _ oM)) aM) _ _ d.g) (fun _ _ d=>?_)));have bk:=lj y;cases V:(((nb y:Nat):Int) == (0:Int))
 .
  have zj:=ag V;refine lB 26 V (ah (cK (aa d [.o (nv x) 0 0 2,.o (nv y) 1 0 2] (am 31 d (Gf x y oM aM aM _ _ d.g) (fun _ _ d=>?_)))));have hmd:=ys x (show 0<y by omega);refine lL d [.c,.v (nv (x/y)),.v (nv (x%y)),.v qT] (lA 7 25 ([uV 0,eS]) d (fun zn _ _ d=>lA 8 25 ([uV 0,eS]) d (fun zo _ _ d=>lP 1 0 (nc (x/y)) d (fun _ d=>lP 0 0 (nc (x%y)) d (fun _ d=>lL d ac (af ?_))))));have B:=d;refine CJ 2 [] [I,J] mixed d aq (eO 0 35 [(3,0,2)] (nv y) d (vf 1 36 [(0,0,2)] (nv (x%y)) B d ?_ (hM:=fun p Z=>by obtain rfl:=ov.1 Z;exact fun hm=>by rcases g1.1 hm with e|hm;exact fI d.st (i:=0) (j:=2) kR kR kR e;rcases g1.1 hm with e|hm;exact fI d.st (i:=0) (j:=3) kR kR kR e;cases hm)));refine bY d (fun _ _ d=>tP 2 2 0 (nc y) d (fun _ d=>?_) (hz:=fK (JQ)));refine tP 3 3 0 (nc (x%y)) d (fun _ d=>?_) (hz:=fK (JR _<|JQ));refine tN (cQ (aD ?_));have D:J0 y (x%y)=J0 (ab a) (ab b):=by rw[<-F];exact jh _ _
  refine lL d [.o (nv (x%y)) 3 0 2] (am 38 d (fg (x%y) (by first|assumption|exact aA (J9 (ys _ oM)) aM) _ _ d.g) (fun _ _ d=>?_));have bf:=lj (x%y);cases W:(((nb (x%y):Nat):Int) == (0:Int))
  .
   have zk:=ag W;refine lB 39 W (ah (cK (cQ (aa d [.o (nv y) 2 0 2] (lC 43 d (Es y _ _ d.g) ?_)))));rintro _ _ _ d ⟨sp,ok,rfl,z⟩;refine lL d [.c,.v (mV sp),.v (.bool ok),.c,.c] (aR (lL d ac (lN ?_)));cases S:(ok)
   .
    try rw[S] at d
    try rw[S]
    exact cW (cK (aa d [.o (nv y) 2 0 2,.o (nv (x%y)) 3 0 2] (am 62 d (AX y (x%y) oM oM (by first|assumption|exact aA (J9 (ys _ oM)) aM) (by first|assumption|exact aA (J9 (ys _ oM)) aM) _ _ d.g d.f.1) (fun _ _ d=>lP 4 0 (nc (J0 y (x%y))) d (fun _ d=>ae d [(4,0,2)] (nv (J0 y (x%y))) (congrArg nv D))))))
   try rw[S] at d
   try rw[S]
   refine cl (aa d [.o (nv (x%y)) 3 0 2] (am 49 d (sn (x%y) (by have C:=z aM;omega) _ _ d.g) (fun _ zp d=>lL d [.c,.v (mV (x%y)),.v qT,.c,.c] (af (kZ ?_)))));refine cj _ (CG.loop (fun Y Γ X=>∃ (p:Nat)(q:Nat)(l:Hp),Y=q/\Γ=[(4,pB U),(6,pB J),(5,pB I),(10,mV p),(12,mV q)]/\SS w h X l [⟨zo,25,nc (x%y)⟩,⟨zn,25,nc (x/y)⟩,⟨I,25,nc y⟩,⟨J,25,nc (x%y)⟩,⟨U,25,[uV 0,eS]⟩,⟨b4,27,ic b⟩,⟨b1,27,ic a⟩] [] [fun l=>Tab l]/\p<18446744073709551616/\q<18446744073709551616/\J0 p q=J0 (ab a) (ab b)) _ ⟨sp,(x%y),zp,rfl,rfl,d.to _ _,(by have C:=z aM;omega),(by have C:=z aM;omega),(by rw[(z aM).1];exact D)⟩ ?_);rintro _ _ _ ⟨p,q,_,bb,rfl,d,Z,hq,hG⟩;refine cQ (aa d ac ?_);cases Q:(decide ((0:Int)<(q:Int)))
   .
    have zl:=oF Q;refine lB 53 Q (ah (CG.exit ?_))
    show CG _ _ _ _ _ _ _ _
    exact aa d ac (am 59 d (HF p Z _ _ d.g) (fun _ _ d=>lP 4 0 (nc p) d (fun _ d=>ae d [(4,0,2)] (nv p) (congrArg nv (by rw[<-hG,show q=0 by omega,Ka])))))
   have zl:=oT Q;refine lB 53 Q (au (cK (kZ (cR 4 [] mixed d aq ?_))));refine eV 0 54 (mV q) (eV 1 55 (mV p) (eV 2 56 (mV q) (eV 3 57 (mV (p%q)) ?_ (hv:=fun _=>be (fR (t:=23) (u:=23) (x:=.tmp 55) (y:=.tmp 56) (k:=.u64) (a:=(p:Int)) (b:=(q:Int)) kR kR kR oM _) (dx p q)))));refine bY d (fun _ zq d=>tV 4 10 (mV q) (tV 5 12 (mV (p%q)) (tD ?_)));intro a_ H;refine ⟨_,_,?_,⟨q,p%q,zq,rfl,rfl,d.to _ _,hq,(by have:=ys p (show 0<q by omega);omega),(by rw[jh];exact hG)⟩,H.to _ kR⟩;have bd:=ys p (show 0<q by omega)
   omega
  have zk:=eq_of_beq W;exact lB 39 W (au (aa d [.o (nv y) 2 0 2] (lP 4 0 (nc y) d (fun _ d=>ae d [(4,0,2)] (nv y) (congrArg nv (by rw[<-D,show (x%y)=0 by omega,Ka]))))))
 have zj:=eq_of_beq V;exact lB 26 V (au (aa d [.o (nv x) 0 0 2] (lP 2 0 (nc x) d (fun _ d=>ae d [(2,0,2)] (nv x) (congrArg nv (by rw[<-F,show y=0 by omega,Ka]))))))
theorem o6 (z:Int)(b:Nat)(c:(b:Int)∣z):cF (decide (z.sign<0)) (ab z/b)=z/b:=by
 obtain ⟨k,rfl⟩:=c
 rcases yA b with hb|hb
 ·subst hb;simp[cF,ab]
 have e1:ab ((b:Int)*k)/b=k.natAbs:=by
  unfold ab
  rw[Kb,Kc,J4 _ hb]
 have e2:((b:Int)*k)/b=k:=Kd _ oM;have a:((b:Int)*k).sign=k.sign:=by rw[Int.sign_mul,Int.sign_natCast_of_ne_zero oM,Int.one_mul]
 rw[e1,e2,a]
 unfold cF
 rcases Ke k 0 with h|h|h
 ·rw[JW h];simp;omega
 ·subst h;simp
 ·rw[JX h];simp;omega
theorem kE (a b:Rat):∀ g h:Nat,∀ up:Int,g=J0 a.den b.den->up=a.num*((b.den/g:Nat):Int)+b.num*((a.den/g:Nat):Int)->h=J0 (ab up) g ->
    (a+b).num=up/h/\(a+b).den=(a.den/g)*(b.den/h)/\(h:Int)∣up/\h∣b.den/\0<h/\0<g:=by
  intro g h up c e d;have i:0<g:=by rw[c];exact Nat.gcd_pos_of_pos_left _ a.den_pos
  have l:0<h:=by rw[d];exact Kf _ i
  have y:g∣a.den:=by rw[c];exact Kg _ _
  have o:g∣b.den:=by rw[c];exact Kh _ _
  have u:h∣g:=by rw[d];exact Kh _ _
  have x:(h:Int)∣up:=by
    have h1:h∣up.natAbs:=by rw[d];exact Kg _ _
    exact Ki (Kj.2 h1) (Kk.2 (Kl _))
  have j:h∣b.den:=Nat.dvd_trans u o;refine ⟨?_,?_,x,j,l,i⟩
  . show (Km a b).num=_
    delta Km
    dsimp only
    split
    . rename_i h1
      have p:g=1:=by rw[c];exact h1
      dsimp only
      clear h1 c
      subst p;have f:h=1:=by rw[d];simp
      rw[f,e];simp
    . subst c e d
      dsimp only[Ko]
      split
      . rename_i h1
        dsimp only
        unfold ab
        rw[h1];simp
      . dsimp only
        rw[Kp]
        rfl
  . show (Km a b).den=_
    delta Km
    dsimp only
    split
    . rename_i h1
      have p:g=1:=by rw[c];exact h1
      dsimp only
      clear h1 c
      subst p;have f:h=1:=by rw[d];simp
      rw[f];simp
    . subst c e d
      dsimp only[Ko]
      split
      . rename_i h1
        dsimp only
        unfold ab
        rw[h1];simp
      . dsimp only
        rw[Kq]
        unfold ab at *
        rw[Nat.mul_div_assoc _ j]
theorem ki (a b:Rat):∀ g h:Nat,g=J0 (ab a.num) b.den->h=J0 (ab b.num) a.den ->
  (a*b).num=(a.num/g)*(b.num/h)/\(a*b).den=(a.den/h)*(b.den/g)/\(g:Int)∣a.num/\(h:Int)∣b.num/\0<g/\0<h:=by
 intro g h d c;have f:0<g:=by rw[d];exact Kf _ b.den_pos
 have e:0<h:=by rw[c];exact Kf _ a.den_pos
 have j:(g:Int)∣a.num:=by
  have h1:g∣a.num.natAbs:=by rw[d];exact Kg _ _
  exact Ki (Kj.2 h1) (Kk.2 (Kl _))
 have i:(h:Int)∣b.num:=by
  have h1:h∣b.num.natAbs:=by rw[c];exact Kg _ _
  exact Ki (Kj.2 h1) (Kk.2 (Kl _))
 refine ⟨?_,?_,j,i,f,e⟩
 ·show (Kr a b).num=_
  delta Kr
  dsimp only
  rw[Kp,Kp,d,c];rfl
 ·show (Kr a b).den=_
  delta Kr
  dsimp only
  rw[Kq,Kq,d,c];rfl
theorem hJ (n:Int)(d:Nat)(b:0<d):(mkRat n d).num=n/(J0 (ab n) d:Nat)/\(mkRat n d).den=d/J0 (ab n) d/\((J0 (ab n) d:Nat):Int)∣n/\0<J0 (ab n) d:=by
 have a:((J0 (ab n) d:Nat):Int)∣n:=by
  have h1:J0 (ab n) d∣n.natAbs:=Kg _ _;exact Ki (Kj.2 h1) (Kk.2 (Kl _))
 unfold mkRat
 rw[dif_neg oM,Rat.normalize_eq];exact ⟨rfl,rfl,a,Kf _ b⟩
theorem tj (b:Rat)(h:b.num≠0):(b⁻¹).num=cF (decide (b.num.sign<0)) b.den/\(b⁻¹).den=ab b.num:=by
 have e:b⁻¹=Rat.inv b:=rfl;rw[e]
 delta Rat.inv
 split
 ·rename_i h1
  rw[JW h1];simp[cF,ab]
 ·split
  ·rename_i h1
   rw[JX h1];simp[cF,ab]
  ·omega
def LQ (k:Nat)(q:Rat):Prop:=(wds (ab q.num)).length<=k/\(wds q.den).length<=k
theorem dQ (n:Nat)(w:World)(h:Hp)(g:G w h):CV 37 #[.bool false,nv n] w h (iv (n:Int)):=wi n w h g
theorem ji (x y:Int)(d:Nat)(c:d=J0 (ab x) (ab y))(b:(wds (ab x)).length<=1000000000)(a:(wds (ab y)).length<=1000000000)(w:World)(h:Hp)(g:G w h)(e:Tab h):CV 112 #[iv x,iv y] w h (nv d):=by
 subst c;exact IS x y b a w h g e
theorem xv {n:Nat}:nb n=1↔n=1:=by
 rcases yA n with h|h
 ·subst h;simp[nb]
 ·have h1:=cC h
  constructor
  ·intro e;rw[e] at h1;omega
  ·intro e;subst e;rfl
theorem pq {n:Nat}:nb n=0↔n=0:=by
 rcases lj n with ⟨h1,h2⟩|⟨h1,h2⟩<;>omega
theorem kP {q:Rat}(h:q.den=1):qd q=0:=by unfold qd;rw[if_pos h]
theorem C3 {q:Rat}(h:q.den≠1):qd q=q.den:=by unfold qd;rw[if_neg h]
theorem AW {q:Rat}:qd q=0↔q.den=1:=by
 unfold qd
 have:=q.den_pos
 split<;>omega
theorem Jl (q:Rat):(((nb (qd q):Nat):Int) == (0:Int))=decide (q.den=1):=by
 rw[Bool.eq_iff_iff]
 simp only[beq_iff_eq,decide_eq_true_eq]
 rw[<-AW,<-pq]
 omega
theorem ik {q:Rat}{z:Int}{d:Nat}(hz:q.num=z)(a:qd q=d):Value.agg #[.bool (aw z),.int .u64 (lo (ab z)),.string (hi (ab z)),.int .u64 (lo d),.string (hi d)]=qv q:=by subst hz a;rfl
theorem LQ.qd {k:Nat}{q:Rat}(h:LQ k q):(wds (qd q)).length<=k:=by
 unfold Go.Proofs.YtpnchlalmgmkeaaGreatDoor.qd
 split
 ·exact JL _
 ·exact h.2
theorem FO (a:Rat)(ha:LQ 1000000000 a)(w:World)(h:Hp)(g:G w h):CV 113 #[iv a.num,nv a.den] w h (qv a):=by
 have b:=sS g;obtain ⟨f,i⟩:=ha;have e:=@xv a.den;refine go Tryz.func113 [(0,iv a.num),(1,nv a.den)] rfl (aD (lA 2 27 (ic a.num) b (fun p w2 y b=>lA 3 25 (nc a.den) b (fun x u C b=>lA 4 29 a1 b (fun z l B b=>af (aa b [.o (nv a.den) 1 0 2] (am 6 b (fg a.den cB _ _ b.g) (fun _ _ b=>?_))))))));cases c:(((nb a.den:Nat):Int) == (1:Int))
 .
  have j:=ag c;exact lB 7 c (ah (cK (aa b [.o (iv a.num) 2 0 3,.o (nv a.den) 1 0 2,.v (.agg #[.bool (aw a.num),uV (lo (ab a.num)),.string (hi (ab a.num)),uV (lo a.den),.string (hi a.den)])] (lP 0 0 ([.bool (aw a.num),uV (lo (ab a.num)),.string (hi (ab a.num)),uV (lo a.den),.string (hi a.den)]) b (fun _ b=>ae b [(0,0,5)] (.agg #[.bool (aw a.num),uV (lo (ab a.num)),.string (hi (ab a.num)),uV (lo a.den),.string (hi a.den)]) (ik (q:=a) (d:=a.den) rfl (C3 oM)))))))
 have j:=eq_of_beq c;exact lB 7 c (au (aa b [.o (iv a.num) 2 0 3,.v (.agg #[.bool (aw a.num),uV (lo (ab a.num)),.string (hi (ab a.num)),uV 0,eS])] (lP 0 0 ([.bool (aw a.num),uV (lo (ab a.num)),.string (hi (ab a.num)),uV 0,eS]) b (fun _ b=>ae b [(0,0,5)] (.agg #[.bool (aw a.num),uV (lo (ab a.num)),.string (hi (ab a.num)),uV 0,eS]) (ik (q:=a) (d:=0) rfl (kP oM))))))
theorem jy (q:Rat)(z:Int)(d:Nat)(hz:q.num=z)(b:d=q.den)(a:LQ 1000000000 q)(w:World)(h:Hp)(g:G w h):CV 113 #[iv z,nv d] w h (qv q):=by
 subst hz b;exact FO q a w h g
theorem bX (z:Int)(g:Nat)(a:(g:Int)∣z):ab (z/g)<=ab z:=by
 unfold ab
 rcases yA g with h|h
 ·subst h;simp
 ·obtain ⟨k,rfl⟩:=a
  rw[Kd _ oM,Kb,Kc];exact J5 _ h
theorem gJ (a b:Nat)(hb:0<b)(i:(wds a).length<=1000000000)(l:(wds b).length<=1000000000)(w:World)(h:Hp)(g:G w h):CV 115 #[nv a,nv b] w h (nv (a/b)):=by
 have d:=sS g;have f:=@xv b;refine go Tryz.func115 [(0,nv a),(1,nv b)] rfl (aD (lA 2 25 (nc a) d (fun y w2 C d=>lA 3 25 (nc b) d (fun B z H d=>lA 4 25 ([uV 0,eS]) d (fun D x F d=>af (aa d [.o (nv b) 1 0 2] (am 9 d (fg b cB _ _ d.g) (fun _ _ d=>?_))))))));cases e:(((nb b:Nat):Int) == (1:Int))
 .
  have j:=ag e;exact lB 10 e (ah (cK (aa d [.o (nv a) 2 0 2,.o (nv b) 1 0 2] (am 15 d (Gf a b oM aM aM _ _ d.g) (fun _ _ d=>lL d [.c,.v (nv (a/b)),.v (nv (a%b)),.v qT] (lA 5 25 ([uV 0,eS]) d (fun u _ _ d=>lA 6 25 ([uV 0,eS]) d (fun p _ _ d=>lP 1 0 (nc (a/b)) d (fun _ d=>lP 0 0 (nc (a%b)) d (fun _ d=>lL d ac (aR (lL d [.o (nv (a/b)) 1 0 2] (lP 2 0 (nc (a/b)) d (fun _ d=>ae d [(2,0,2)] (nv (a/b)) rfl))))))))))))))
 have j:=eq_of_beq e;exact lB 10 e (au (aa d [.o (nv a) 2 0 2] (lP 0 0 (nc a) d (fun _ d=>ae d [(0,0,2)] (nv a) (by rw[show b=1 by omega,Nat.div_one])))))
theorem lz (z:Int)(b:Nat)(hb:0<b)(f:(b:Int)∣z)(c:(wds (ab z)).length<=1000000000)(e:(wds b).length<=1000000000)(w:World)(h:Hp)(g:G w h):CV 114 #[iv z,nv b] w h (iv (z/b)):=by
 have a:=sS g;have d:(wds (ab z/b)).length<=1000000000:=aA (yN _ _) c;refine go Tryz.func114 [(0,iv z),(1,nv b)] rfl (aD (lA 2 27 (ic z) a (fun j w2 p a=>lA 3 25 (nc b) a (fun o l y a=>lA 4 27 ([qF,uV 0,eS]) a (fun u i x a=>af (cR 8 [] mixed a aq ?_))))));exact eO 0 5 [(2,0,3)] (iv z) a (eO 3 8 [(2,0,3)] (iv z) a (eO 5 10 [(1,0,2)] (nv b) a (ai 1 6 a (fun _ _ a=>lk z cB _ _ a.g) (fun _ _ a=>eV 2 7 (.bool (decide (((z).sign:Int)<(0:Int)))) (ai 4 9 a (fun _ _ a=>tH z _ _ a.g) (fun _ _ a=>ai 6 11 a (fun _ _ a=>gJ (ab z) b aM cB cB _ _ a.g) (fun _ _ a=>ai 7 12 a (fun _ _ a=>fh (decide (((z).sign:Int)<(0:Int))) ((ab z)/b) cB _ _ a.g) (fun _ _ a=>bY a (fun _ _ a=>tP 8 0 0 (ic (cF (decide (((z).sign:Int)<(0:Int))) ((ab z)/b))) a (fun _ a=>tN (kX (a.ret [(0,0,3)] (iv (cF (decide (((z).sign:Int)<(0:Int))) ((ab z)/b))) (congrArg iv (o6 z b f))))))))))))))
theorem ij (z:Int)(d:Nat)(b:(wds (ab z)).length+(wds d).length<=1000000000)(w:World)(h:Hp)(g:G w h):CV 31 #[iv z,nv d] w h (iv (z*d)):=by
 have a:=sS g;refine go Tryz.func31 [(0,iv z),(1,nv d)] rfl (aD (lA 2 27 (ic z) a (fun i w2 o a=>lA 3 25 (nc d) a (fun p j l a=>lA 4 27 ([qF,uV 0,eS]) a (fun e c f a=>af (cR 4 [] mixed a aq ?_))))));exact eO 0 5 [(2,0,3)] (iv z) a (eO 1 6 [(1,0,2)] (nv d) a (ai 2 7 a (fun _ _ a=>dQ d _ _ a.g) (fun _ _ a=>ai 3 8 a (fun _ _ a=>Cx z (d:Int) cB _ _ a.g) (fun _ _ a=>bY a (fun _ _ a=>tP 4 0 0 (ic (z*(d:Int))) a (fun _ a=>tN (kX (a.ret [(0,0,3)] (iv (z*(d:Int))) rfl))))))))
theorem kN (a:Rat)(ha:LQ 100000000 a)(w:World)(h:Hp)(g:G w h):CV 29 #[qv a] w h (.bool (decide (a.den=1))):=by
 have b:=sS g;have d:=ha.qd;exact go Tryz.func29 [(0,qv a)] rfl (aD (lA 1 29 (qc a) b (fun e w2 i b=>lL b ac (aR (lL b [.v (qP e 3),.o (nv (qd a)) 0 3 2] (am 5 b (fg (qd a) cB _ _ b.g) (fun w4 f b=>lL b [.v (.bool (((nb (qd a):Nat):Int) == (0:Int))),.c] (ae b [] (.bool (((nb (qd a):Nat):Int) == (0:Int))) (congrArg Value.bool (Jl a))))))))))
theorem eM (a:Rat)(ha:LQ 100000000 a)(w:World)(h:Hp)(g:G w h):CV 32 #[qv a] w h (nv a.den):=by
 have b:=sS g;refine go Tryz.func32 [(0,qv a)] rfl (aD (lA 1 29 (qc a) b (fun e w2 j b=>lA 2 25 ([uV 0,eS]) b (fun l f i b=>af (aa b [.o (qv a) 1 0 5] (am 4 b (kN a aM _ _ b.g) (fun p u b=>?_)))))));cases d:(decide (a.den=1))
 .
  have c:=oF d;exact ah (cK (aa b [.v (qP e 3),.o (nv (qd a)) 1 3 2] (lP 0 0 (nc (qd a)) b (fun _ b=>ae b [(0,0,2)] (nv (qd a)) (by rw[C3 (by simpa using (by assumption:decide (a.den=1)=false))])))))
 have c:=oT d;exact au (aD (am 5 b (HF 1 oM _ _ b.g) (fun _ _ b=>lP 0 0 (nc 1) b (fun _ b=>ae b [(0,0,2)] (nv 1) (by rw[show a.den=1 by simpa using (by assumption:decide (a.den=1)=true)])))))
theorem Iz (a:Rat)(w:World)(h:Hp)(g:G w h):CV 129 #[qv a] w h (iv a.num):=by
 have b:=sS g;exact go Tryz.func129 [(0,qv a)] rfl (aD (lA 1 29 (qc a) b (fun c w2 f b=>lA 2 27 ([qF,uV 0,eS]) b (fun i d e b=>aR (lL b [.v (pB c),.o (iv a.num) 1 0 3] (lP 0 0 (ic a.num) b (fun j b=>ae b [(0,0,3)] (iv a.num) rfl)))))))
theorem gM (a:Rat)(ha:LQ 100000000 a)(w:World)(h:Hp)(g:G w h):CV 11 #[qv a] w h (iV a.num.sign):=by
 have b:=sS g;obtain ⟨e,c⟩:=ha;exact go Tryz.func11 [(0,qv a)] rfl (aD (lA 1 29 (qc a) b (fun d w2 i b=>lL b ac (aR (lL b [.v (pB d),.o (iv a.num) 0 0 3] (am 5 b (lk a.num cB _ _ b.g) (fun w4 f b=>lL b ac (ae b [] (iV ((a.num).sign)) rfl))))))))
theorem og (z:Int)(h0 : -9223372036854775808<=z)(h1:z<=9223372036854775807)(w:World)(h:Hp)(g:G w h):CV 23 #[iV z] w h (qv (z:Rat)):=by
 have a:=sS g;exact go Tryz.func23 [(0,iV z)] rfl (aD (lA 2 29 a1 a (fun c w2 f a=>aR (lL a ac (am 4 a (Jn z oM oM _ _ a.g) (fun w4 e a=>lL a [.v (.agg #[.bool (aw z),uV (lo (ab z)),.string (hi (ab z)),uV 0,eS])] (lP 0 0 ([.bool (aw z),uV (lo (ab z)),.string (hi (ab z)),uV 0,eS]) a (fun b a=>ae a [(0,0,5)] (.agg #[.bool (aw z),uV (lo (ab z)),.string (hi (ab z)),uV 0,eS]) (ik (d:=0) (Ks z) (kP (Kt z)))))))))))
theorem Bd (a:Rat)(ha:LQ 100000000 a)(w:World)(h:Hp)(g:G w h):CV 100 #[qv a] w h (qv (-a)):=by
 have b:=sS g;obtain ⟨e,d⟩:=ha;refine go Tryz.func100 [(0,qv a)] rfl (aD (lA 1 29 (qc a) b (fun c w2 l b=>lA 2 29 a1 b (fun o i j b=>af (cR 6 [] mixed b aq ?_)))));exact eV 0 3 (pB c) (eO 1 4 [(1,0,3)] (iv a.num) b (eV 3 6 (qP c 3) (eO 4 7 [(1,3,2)] (nv (qd a)) b (ai 2 5 b (fun _ _ b=>Hi a.num cB _ _ b.g) (fun p u b=>eV 5 8 (.agg #[.bool (aw (-a.num)),uV (lo (ab (-a.num))),.string (hi (ab (-a.num))),uV (lo (qd a)),.string (hi (qd a))]) (bY b (fun f _ b=>tP 6 0 0 ([.bool (aw (-a.num)),uV (lo (ab (-a.num))),.string (hi (ab (-a.num))),uV (lo (qd a)),.string (hi (qd a))]) b (fun _ b=>tN (kX (b.ret [(0,0,5)] (.agg #[.bool (aw (-a.num)),uV (lo (ab (-a.num))),.string (hi (ab (-a.num))),uV (lo (qd a)),.string (hi (qd a))]) (ik (Ku a) (by unfold qd;rw[Kv]))))))))))))
theorem sO (z:Int)(d:Nat)(p:0<d)(l:(wds (ab z)).length<=1000000000)(i:(wds d).length<=1000000000)(w:World)(h:Hp)(g:G w h)(y:Tab h):CV 73 #[iv z,nv d] w h (qv (mkRat z d)):=by
 have a:=((sS g).add (K:=fun u=>Tab u) y);obtain ⟨b,c,e,j⟩:=hJ z d p;obtain ⟨q,hq⟩:∃ q,q=J0 (ab z) d:=⟨_,rfl⟩;rw[<-hq] at b c e j
 have B:(wds q).length<=1000000000:=aA (by rw[hq];exact Kw _ p) i;have x:LQ 1000000000 (mkRat z d):=⟨by rw[b];exact aA (bX z q e) l,by rw[c];exact aA (yN _ _) i⟩;refine go Tryz.func73 [(0,iv z),(1,nv d)] rfl (aD (lA 2 27 (ic z) a (fun F w2 J a=>lA 3 25 (nc d) a (fun I H O a=>lA 4 29 a1 a (fun L D M a=>af ?_)))));have o:=a;refine cR 5 [⟨4,5,.cells (J8 [uV 0,eS]) 25 (0,0)⟩] mixed a (bv (dM kR (fun _ _=>by kernel_rfl)) aq) (eO 0 6 [(2,0,3)] (iv z) a (eO 1 7 [(1,0,2)] (nv d) a (ai 2 8 a (fun _ _ a=>dQ d _ _ a.g) (fun _ _ a=>ai 3 9 a (fun _ _ a=>ji z (d:Int) q (by first|assumption|exact hq) cB (show (wds d).length<=1000000000 by first|assumption|omega) _ _ a.g a.f.1) (fun _ _ a=>eP [] o a 25 [uV 0,eS] (fun _ _ C a=>tP 5 0 0 (nc q) a (fun _ a=>tN (cQ (cR 7 [] mixed a aq ?_)))))))));exact eO 0 10 [(3,0,3)] (iv z) a (eO 1 11 [(0,0,2)] (nv q) a (eO 3 13 [(2,0,2)] (nv d) a (eO 4 14 [(0,0,2)] (nv q) a (ai 2 12 a (fun _ _ a=>lz z q aM aM cB cB _ _ a.g) (fun _ _ a=>ai 5 15 a (fun _ _ a=>gJ d q aM cB cB _ _ a.g) (fun _ _ a=>ai 6 16 a (fun _ _ a=>jy (mkRat z d) (z/(q:Int)) (d/q) (by first|assumption|exact b|exact (b).symm) (by first|assumption|exact c.symm) aM _ _ a.g) (fun _ _ a=>bY a (fun _ _ a=>tP 7 1 0 (qc (mkRat z d)) a (fun _ a=>tN (kX (a.ret [(1,0,5)] (qv (mkRat z d)) rfl)))))))))))
theorem dt (a:Rat)(ha:LQ 100000000 a)(h1:a.den=1)(w:World)(h:Hp)(g:G w h):CV 29 #[qv a] w h (.bool true):=by
 have:=kN a ha w h g;rwa [decide_eq_true h1] at this
theorem fc (a:Rat)(ha:LQ 100000000 a)(h1:a.den≠1)(w:World)(h:Hp)(g:G w h):CV 29 #[qv a] w h (.bool false):=by
 have:=kN a ha w h g;rwa [decide_eq_false h1] at this
theorem C7 (x y z:Int)(e:z=x+y)(a:(wds (ab x)).length+(wds (ab y)).length<=999999999)(w:World)(h:Hp)(g:G w h):CV 131 #[iv x,iv y] w h (iv z):=by
 subst e;exact Hh x y a w h g
theorem ir (x y:Int):(wds (ab (x*y))).length<=(wds (ab x)).length+(wds (ab y)).length:=by
 have:ab (x*y)=ab x*ab y:=Kb x y;rw[this];exact cX
theorem dd (x:Int)(d:Nat):(wds (ab (x*((d:Nat):Int)))).length<=(wds (ab x)).length+(wds d).length:=ir x (d:Int)
theorem pY (x y:Int):(wds (ab (x+y))).length<=(wds (ab x)).length+(wds (ab y)).length+1 :=
 eu (cJ (show ab (x+y)<=ab x+ab y from Kx x y)) j5
theorem iL {a b:Rat}(ha:a.den=1)(hb:b.den=1):(a+b).num=a.num+b.num/\(a+b).den=1:=by
 obtain ⟨e1,e2,e,d,c,f⟩:=kE a b 1 1 (a.num+b.num) (by rw[ha,hb];rfl) (by rw[ha,hb];simp) (by simp);rw[ha,hb] at e2
 exact ⟨by simpa using e1,by simpa using e2⟩
theorem iJ {a b:Rat}(ha:a.den=1)(hb:b.den=1):(a*b).num=a.num*b.num/\(a*b).den=1:=by
 obtain ⟨e1,e2,e,d,c,f⟩:=ki a b 1 1 (by rw[hb];simp) (by rw[ha];simp);rw[ha,hb] at e2
 exact ⟨by simpa using e1,by simpa using e2⟩
theorem DL (a b:Rat)(ha:LQ 100000000 a)(hb:LQ 100000000 b)(f:a.den=1)(i:b.den=1)(w:World)(h:Hp)(g:G w h)(B:Tab h):CV 96 #[qv a,qv b] w h (qv (a+b)):=by
 have e:=((sS g).add (K:=fun p=>Tab p) B);have j:=ha;have l:=hb;obtain ⟨u,C⟩:=j;obtain ⟨D,x⟩:=l;exact go Tryz.func96 [(0,qv a),(1,qv b)] rfl (aD (lA 2 29 (qc a) e (fun y w2 I e=>lA 3 29 (qc b) e (fun z H M e=>lA 4 29 a1 e (fun J F L e=>af (aa e [.o (qv a) 2 0 5] (am 11 e (dt a aM aM _ _ e.g) (fun _ _ e=>lL e [.c,.o (qv b) 1 0 5] (am 14 e (dt b aM aM _ _ e.g) (fun _ _ e=>lL e [.v qT] (au (aa e [.v (pB y),.o (iv a.num) 2 0 3,.v (pB z),.o (iv b.num) 1 0 3] (am 20 e (Hh a.num b.num cB _ _ e.g) (fun _ _ e=>lL e [.v (.agg #[.bool (aw (a.num+b.num)),uV (lo (ab (a.num+b.num))),.string (hi (ab (a.num+b.num))),uV 0,eS])] (lP 0 0 ([.bool (aw (a.num+b.num)),uV (lo (ab (a.num+b.num))),.string (hi (ab (a.num+b.num))),uV 0,eS]) e (fun _ e=>ae e [(0,0,5)] (.agg #[.bool (aw (a.num+b.num)),uV (lo (ab (a.num+b.num))),.string (hi (ab (a.num+b.num))),uV 0,eS]) (ik (d:=0) (iL f i).1 (kP (iL f i).2))))))))))))))))))
theorem EM (a b:Rat)(ha:LQ 100000000 a)(hb:LQ 100000000 b)(F:a.den≠1)(w:World)(h:Hp)(g:G w h)(Z:Tab h):CV 96 #[qv a,qv b] w h (qv (a+b)):=by
 have c:=((sS g).add (K:=fun H=>Tab H) Z);have x:=ha;have z:=hb;obtain ⟨O,l⟩:=ha;obtain ⟨hb1,i⟩:=hb;obtain ⟨q,hq⟩:∃ q,q=J0 a.den b.den:=⟨_,rfl⟩;obtain ⟨up,hup⟩:∃ up,up=a.num*((b.den/q:Nat):Int)+b.num*((a.den/q:Nat):Int):=⟨_,rfl⟩;obtain ⟨r,hr⟩:∃ r,r=J0 (ab up) q:=⟨_,rfl⟩;obtain ⟨e,u,y,J,hr0,B⟩:=kE a b q r up hq hup hr;have C:(wds q).length<=100000000:=aA (by rw[hq];exact J7 _ a.den_pos) l;have hrl:(wds r).length<=100000000:=aA (by rw[hr];exact Kw _ B) C;have haq:(wds (a.den/q)).length<=100000000:=aA (yN _ _) l;have M:(wds (b.den/q)).length<=100000000:=aA (yN _ _) i;have hbr:(wds (b.den/r)).length<=100000000:=aA (yN _ _) i;have Q:=dd a.num (b.den/q);have L:=dd b.num (a.den/q);have S:(wds (ab up)).length<=999999999:=eu (by rw[hup];exact pY _ _) oM;have W:=@cX (a.den/q) (b.den/r);have U:LQ 1000000000 (a+b):=⟨by rw[e];exact aA (bX up r y) oM,by rw[u];omega⟩;have ha:=x;have hb:=z;refine go Tryz.func96 [(0,qv a),(1,qv b)] rfl (aD (lA 2 29 (qc a) c (fun V w2 h3 c=>lA 3 29 (qc b) c (fun D w5 h6 c=>lA 4 29 a1 c (fun b7 w8 h9 c=>af (aa c [.o (qv a) 2 0 5] (am 11 c (fc a aM aM _ _ c.g) (fun _ _ c=>lL c ac (lG 13 ?_)))))))));refine lG 14 (lL c [.v qF] (ah (cK (cQ ?_))));have d:=c;refine cR 8 [⟨7,5,.cells (J8 [uV 0,eS]) 25 (0,0)⟩] mixed c (bv (dM kR (fun _ _=>by kernel_rfl)) aq) (eO 0 22 [(2,0,5)] (qv a) c (eO 3 25 [(1,0,5)] (qv b) c (ai 1 23 c (fun _ _ c=>eM a aM _ _ c.g) (fun _ _ c=>ai 2 24 c (fun _ _ c=>dQ a.den _ _ c.g) (fun _ _ c=>ai 4 26 c (fun _ _ c=>eM b aM _ _ c.g) (fun _ _ c=>ai 5 27 c (fun _ _ c=>dQ b.den _ _ c.g) (fun _ _ c=>ai 6 28 c (fun _ _ c=>ji (a.den:Int) (b.den:Int) q (by first|assumption|exact hq) (show (wds a.den).length<=1000000000 by first|assumption|omega) (show (wds b.den).length<=1000000000 by first|assumption|omega) _ _ c.g c.f.1) (fun _ _ c=>eP [] d c 25 [uV 0,eS] (fun _ _ Y c=>tP 8 0 0 (nc q) c (fun _ c=>tN (cQ ?_)))))))))));have d:=c;refine CJ 10 [⟨8,6,.cells (J8 [uV 0,eS]) 25 (0,0)⟩,⟨9,7,.cells (J8 [uV 0,eS]) 25 (0,0)⟩] [] mixed c (bv (dM kR (fun _ _=>by kernel_rfl)) (bv (dM kR (fun _ _=>by kernel_rfl)) aq)) (eO 0 29 [(3,0,5)] (qv a) c (eO 2 31 [(0,0,2)] (nv q) c (vf 4 33 [(2,0,5)] (qv b) d c (vf 6 35 [(0,0,2)] (nv q) d c (ai 1 30 c (fun _ _ c=>eM a aM _ _ c.g) (fun _ _ c=>ai 3 32 c (fun _ _ c=>gJ a.den q aM cB cB _ _ c.g) (fun _ _ c=>ai 5 34 c (fun _ _ c=>eM b aM _ _ c.g) (fun _ _ c=>ai 7 36 c (fun _ _ c=>gJ b.den q aM cB cB _ _ c.g) (fun _ _ c=>EW d c 25 [uV 0,eS] 25 [uV 0,eS] (fun _ _ I X j p c=>tP 10 0 0 (nc (a.den/q)) c (fun _ c=>?_) (hz:=iC j)))))))))));refine tP 11 1 0 (nc (b.den/q)) c (fun _ c=>?_) (hz:=iC p);refine tN (cQ ?_);have d:=c;refine cR 10 [⟨9,8,.cells (J8 [qF,uV 0,eS]) 27 (0,0)⟩] mixed c (bv (dM kR (fun _ _=>by kernel_rfl)) aq) (eV 0 37 (pB V) (eO 1 38 [(5,0,3)] (iv a.num) c (eO 2 39 [(1,0,2)] (nv (b.den/q)) c (eV 4 41 (pB D) (eO 5 42 [(4,0,3)] (iv b.num) c (eO 6 43 [(0,0,2)] (nv (a.den/q)) c (ai 3 40 c (fun _ _ c=>ij a.num (b.den/q) cB _ _ c.g) (fun _ _ c=>ai 7 44 c (fun _ _ c=>ij b.num (a.den/q) cB _ _ c.g) (fun _ _ c=>ai 8 45 c (fun _ _ c=>C7 (a.num*(((b.den/q):Nat):Int)) (b.num*(((a.den/q):Nat):Int)) up hup oM _ _ c.g) (fun _ _ c=>eP [] d c 27 [qF,uV 0,eS] (fun _ _ zb c=>tP 10 0 0 (ic up) c (fun _ c=>tN (cQ ?_)))))))))))));have d:=c;refine cR 5 [⟨4,9,.cells (J8 [uV 0,eS]) 25 (0,0)⟩] mixed c (bv (dM kR (fun _ _=>by kernel_rfl)) aq) (eO 0 46 [(0,0,3)] (iv up) c (eO 1 47 [(3,0,2)] (nv q) c (ai 2 48 c (fun _ _ c=>dQ q _ _ c.g) (fun _ _ c=>ai 3 49 c (fun _ _ c=>ji up (q:Int) r (by first|assumption|exact hr) cB (show (wds q).length<=1000000000 by first|assumption|omega) _ _ c.g c.f.1) (fun _ _ c=>eP [] d c 25 [uV 0,eS] (fun _ _ zc c=>tP 5 0 0 (nc r) c (fun _ c=>tN (cj [(3,pB D),(4,pB b7),(6,pB I),(8,pB zb),(9,pB zc)] ?_))))))));refine cQ (cR 10 [] mixed c aq ?_);exact eO 0 50 [(1,0,3)] (iv up) c (eO 1 51 [(0,0,2)] (nv r) c (eO 3 53 [(2,0,2)] (nv (a.den/q)) c (eO 4 54 [(6,0,5)] (qv b) c (eO 6 56 [(0,0,2)] (nv r) c (ai 2 52 c (fun _ _ c=>lz up r aM aM cB cB _ _ c.g) (fun _ _ c=>ai 5 55 c (fun _ _ c=>eM b aM _ _ c.g) (fun _ _ c=>ai 7 57 c (fun _ _ c=>gJ b.den r aM cB cB _ _ c.g) (fun _ _ c=>ai 8 58 c (fun _ _ c=>o3 (a.den/q) (b.den/r) cB cB _ _ c.g) (fun _ _ c=>ai 9 59 c (fun _ _ c=>jy (a+b) (up/(r:Int)) ((a.den/q)*(b.den/r)) (by first|assumption|exact e|exact (e).symm) (by first|assumption|exact u.symm) aM _ _ c.g) (fun _ _ c=>bY c (fun _ _ c=>tP 10 5 0 (qc (a+b)) c (fun _ c=>tN (kX (c.ret [(5,0,5)] (qv (a+b)) rfl))))))))))))))
theorem Ed (a b:Rat)(ha:LQ 100000000 a)(hb:LQ 100000000 b)(H:a.den=1)(hwb:b.den≠1)(w:World)(h:Hp)(g:G w h)(Y:Tab h):CV 96 #[qv a,qv b] w h (qv (a+b)):=by
 have d:=((sS g).add (K:=fun I=>Tab I) Y);have y:=ha;have B:=hb;obtain ⟨Q,p⟩:=ha;obtain ⟨hb1,j⟩:=hb;obtain ⟨q,hq⟩:∃ q,q=J0 a.den b.den:=⟨_,rfl⟩;obtain ⟨up,hup⟩:∃ up,up=a.num*((b.den/q:Nat):Int)+b.num*((a.den/q:Nat):Int):=⟨_,rfl⟩;obtain ⟨r,hr⟩:∃ r,r=J0 (ab up) q:=⟨_,rfl⟩;obtain ⟨i,u,z,L,hr0,C⟩:=kE a b q r up hq hup hr;have D:(wds q).length<=100000000:=aA (by rw[hq];exact J7 _ a.den_pos) p;have hrl:(wds r).length<=100000000:=aA (by rw[hr];exact Kw _ C) D;have haq:(wds (a.den/q)).length<=100000000:=aA (yN _ _) p;have O:(wds (b.den/q)).length<=100000000:=aA (yN _ _) j;have hbr:(wds (b.den/r)).length<=100000000:=aA (yN _ _) j;have S:=dd a.num (b.den/q);have M:=dd b.num (a.den/q);have U:(wds (ab up)).length<=999999999:=eu (by rw[hup];exact pY _ _) oM;have X:=@cX (a.den/q) (b.den/r);have V:LQ 1000000000 (a+b):=⟨by rw[i];exact aA (bX up r z) oM,by rw[u];omega⟩;have ha:=y;have hb:=B;refine go Tryz.func96 [(0,qv a),(1,qv b)] rfl (aD (lA 2 29 (qc a) d (fun W w2 h3 d=>lA 3 29 (qc b) d (fun F w5 h6 d=>lA 4 29 a1 d (fun b7 w8 h9 d=>af (aa d [.o (qv a) 2 0 5] (am 11 d (dt a aM aM _ _ d.g) (fun _ _ d=>lL d [.c,.o (qv b) 1 0 5] (am 14 d (fc b aM aM _ _ d.g) (fun _ _ d=>lL d [.v qF] (ah (cK (cQ ?_)))))))))))));have e:=d;refine cR 8 [⟨7,5,.cells (J8 [uV 0,eS]) 25 (0,0)⟩] mixed d (bv (dM kR (fun _ _=>by kernel_rfl)) aq) (eO 0 22 [(2,0,5)] (qv a) d (eO 3 25 [(1,0,5)] (qv b) d (ai 1 23 d (fun _ _ d=>eM a aM _ _ d.g) (fun _ _ d=>ai 2 24 d (fun _ _ d=>dQ a.den _ _ d.g) (fun _ _ d=>ai 4 26 d (fun _ _ d=>eM b aM _ _ d.g) (fun _ _ d=>ai 5 27 d (fun _ _ d=>dQ b.den _ _ d.g) (fun _ _ d=>ai 6 28 d (fun _ _ d=>ji (a.den:Int) (b.den:Int) q (by first|assumption|exact hq) (show (wds a.den).length<=1000000000 by first|assumption|omega) (show (wds b.den).length<=1000000000 by first|assumption|omega) _ _ d.g d.f.1) (fun _ _ d=>eP [] e d 25 [uV 0,eS] (fun _ _ Z d=>tP 8 0 0 (nc q) d (fun _ d=>tN (cQ ?_)))))))))));have e:=d;refine CJ 10 [⟨8,6,.cells (J8 [uV 0,eS]) 25 (0,0)⟩,⟨9,7,.cells (J8 [uV 0,eS]) 25 (0,0)⟩] [] mixed d (bv (dM kR (fun _ _=>by kernel_rfl)) (bv (dM kR (fun _ _=>by kernel_rfl)) aq)) (eO 0 29 [(3,0,5)] (qv a) d (eO 2 31 [(0,0,2)] (nv q) d (vf 4 33 [(2,0,5)] (qv b) e d (vf 6 35 [(0,0,2)] (nv q) e d (ai 1 30 d (fun _ _ d=>eM a aM _ _ d.g) (fun _ _ d=>ai 3 32 d (fun _ _ d=>gJ a.den q aM cB cB _ _ d.g) (fun _ _ d=>ai 5 34 d (fun _ _ d=>eM b aM _ _ d.g) (fun _ _ d=>ai 7 36 d (fun _ _ d=>gJ b.den q aM cB cB _ _ d.g) (fun _ _ d=>EW e d 25 [uV 0,eS] 25 [uV 0,eS] (fun _ _ J b39 l x d=>tP 10 0 0 (nc (a.den/q)) d (fun _ d=>?_) (hz:=iC l)))))))))));refine tP 11 1 0 (nc (b.den/q)) d (fun _ d=>?_) (hz:=iC x);refine tN (cQ ?_);have e:=d;refine cR 10 [⟨9,8,.cells (J8 [qF,uV 0,eS]) 27 (0,0)⟩] mixed d (bv (dM kR (fun _ _=>by kernel_rfl)) aq) (eV 0 37 (pB W) (eO 1 38 [(5,0,3)] (iv a.num) d (eO 2 39 [(1,0,2)] (nv (b.den/q)) d (eV 4 41 (pB F) (eO 5 42 [(4,0,3)] (iv b.num) d (eO 6 43 [(0,0,2)] (nv (a.den/q)) d (ai 3 40 d (fun _ _ d=>ij a.num (b.den/q) cB _ _ d.g) (fun _ _ d=>ai 7 44 d (fun _ _ d=>ij b.num (a.den/q) cB _ _ d.g) (fun _ _ d=>ai 8 45 d (fun _ _ d=>C7 (a.num*(((b.den/q):Nat):Int)) (b.num*(((a.den/q):Nat):Int)) up hup oM _ _ d.g) (fun _ _ d=>eP [] e d 27 [qF,uV 0,eS] (fun _ _ zb d=>tP 10 0 0 (ic up) d (fun _ d=>tN (cQ ?_)))))))))))));have e:=d;refine cR 5 [⟨4,9,.cells (J8 [uV 0,eS]) 25 (0,0)⟩] mixed d (bv (dM kR (fun _ _=>by kernel_rfl)) aq) (eO 0 46 [(0,0,3)] (iv up) d (eO 1 47 [(3,0,2)] (nv q) d (ai 2 48 d (fun _ _ d=>dQ q _ _ d.g) (fun _ _ d=>ai 3 49 d (fun _ _ d=>ji up (q:Int) r (by first|assumption|exact hr) cB (show (wds q).length<=1000000000 by first|assumption|omega) _ _ d.g d.f.1) (fun _ _ d=>eP [] e d 25 [uV 0,eS] (fun _ _ zc d=>tP 5 0 0 (nc r) d (fun _ d=>tN (cj [(3,pB F),(4,pB b7),(6,pB J),(8,pB zb),(9,pB zc)] ?_))))))));refine cQ (cR 10 [] mixed d aq ?_);exact eO 0 50 [(1,0,3)] (iv up) d (eO 1 51 [(0,0,2)] (nv r) d (eO 3 53 [(2,0,2)] (nv (a.den/q)) d (eO 4 54 [(6,0,5)] (qv b) d (eO 6 56 [(0,0,2)] (nv r) d (ai 2 52 d (fun _ _ d=>lz up r aM aM cB cB _ _ d.g) (fun _ _ d=>ai 5 55 d (fun _ _ d=>eM b aM _ _ d.g) (fun _ _ d=>ai 7 57 d (fun _ _ d=>gJ b.den r aM cB cB _ _ d.g) (fun _ _ d=>ai 8 58 d (fun _ _ d=>o3 (a.den/q) (b.den/r) cB cB _ _ d.g) (fun _ _ d=>ai 9 59 d (fun _ _ d=>jy (a+b) (up/(r:Int)) ((a.den/q)*(b.den/r)) (by first|assumption|exact i|exact (i).symm) (by first|assumption|exact u.symm) aM _ _ d.g) (fun _ _ d=>bY d (fun _ _ d=>tP 10 5 0 (qc (a+b)) d (fun _ d=>tN (kX (d.ret [(5,0,5)] (qv (a+b)) rfl))))))))))))))
theorem nu (a b:Rat)(ha:LQ 100000000 a)(hb:LQ 100000000 b)(w:World)(h:Hp)(g:G w h)(c:Tab h):CV 96 #[qv a,qv b] w h (qv (a+b)):=by
 by_cases h1:a.den=1
 ·by_cases h2:b.den=1
  ·exact DL a b ha hb h1 h2 w h g c
  ·exact Ed a b ha hb h1 h2 w h g c
 ·exact EM a b ha hb h1 w h g c
theorem DE (a b:Rat)(ha:LQ 100000000 a)(hb:LQ 100000000 b)(f:a.den=1)(i:b.den=1)(w:World)(h:Hp)(g:G w h)(B:Tab h):CV 98 #[qv a,qv b] w h (qv (a*b)):=by
 have e:=((sS g).add (K:=fun p=>Tab p) B);have j:=ha;have l:=hb;obtain ⟨u,C⟩:=j;obtain ⟨D,x⟩:=l;exact go Tryz.func98 [(0,qv a),(1,qv b)] rfl (aD (lA 2 29 (qc a) e (fun y w2 I e=>lA 3 29 (qc b) e (fun z H M e=>lA 4 29 a1 e (fun J F L e=>af (aa e [.o (qv a) 2 0 5] (am 8 e (dt a aM aM _ _ e.g) (fun _ _ e=>lL e [.c,.o (qv b) 1 0 5] (am 11 e (dt b aM aM _ _ e.g) (fun _ _ e=>lL e [.v qT] (au (aa e [.v (pB y),.o (iv a.num) 2 0 3,.v (pB z),.o (iv b.num) 1 0 3] (am 17 e (Cx a.num b.num cB _ _ e.g) (fun _ _ e=>lL e [.v (.agg #[.bool (aw (a.num*b.num)),uV (lo (ab (a.num*b.num))),.string (hi (ab (a.num*b.num))),uV 0,eS])] (lP 0 0 ([.bool (aw (a.num*b.num)),uV (lo (ab (a.num*b.num))),.string (hi (ab (a.num*b.num))),uV 0,eS]) e (fun _ e=>ae e [(0,0,5)] (.agg #[.bool (aw (a.num*b.num)),uV (lo (ab (a.num*b.num))),.string (hi (ab (a.num*b.num))),uV 0,eS]) (ik (d:=0) (iJ f i).1 (kP (iJ f i).2))))))))))))))))))
theorem Fo (a b:Rat)(ha:LQ 100000000 a)(hb:LQ 100000000 b)(F:a.den≠1)(w:World)(h:Hp)(g:G w h)(Q:Tab h):CV 98 #[qv a,qv b] w h (qv (a*b)):=by
 have c:=((sS g).add (K:=fun H=>Tab H) Q);have u:=ha;have B:=hb;obtain ⟨x,j⟩:=ha;obtain ⟨z,i⟩:=hb;obtain ⟨q,hq⟩:∃ q,q=J0 (ab a.num) b.den:=⟨_,rfl⟩;obtain ⟨r,hr⟩:∃ r,r=J0 (ab b.num) a.den:=⟨_,rfl⟩;obtain ⟨d,l,y,p,Z,Y⟩:=ki a b q r hq hr;have hql:(wds q).length<=100000000:=aA (by rw[hq];exact Kw _ b.den_pos) i;have S:(wds r).length<=100000000:=aA (by rw[hr];exact Kw _ a.den_pos) j;have X:(wds (ab (a.num/(q:Int)))).length<=100000000:=aA (bX _ _ y) x;have U:(wds (ab (b.num/(r:Int)))).length<=100000000:=aA (bX _ _ p) z;have har:(wds (a.den/r)).length<=100000000:=aA (yN _ _) j;have I:(wds (b.den/q)).length<=100000000:=aA (yN _ _) i;have O:=@cX (a.den/r) (b.den/q);have L:=ir (a.num/(q:Int)) (b.num/(r:Int));have J:LQ 1000000000 (a*b):=⟨by rw[d];omega,by rw[l];omega⟩;have ha:=u;have hb:=B;refine go Tryz.func98 [(0,qv a),(1,qv b)] rfl (aD (lA 2 29 (qc a) c (fun C w2 h3 c=>lA 3 29 (qc b) c (fun D w5 h6 c=>lA 4 29 a1 c (fun V w8 h9 c=>af (aa c [.o (qv a) 2 0 5] (am 8 c (fc a aM aM _ _ c.g) (fun _ _ c=>lL c ac (lG 10 ?_)))))))));refine lG 11 (lL c [.v qF] (ah (cK (cQ ?_))));have e:=c;refine cR 7 [⟨6,5,.cells (J8 [uV 0,eS]) 25 (0,0)⟩] mixed c (bv (dM kR (fun _ _=>by kernel_rfl)) aq) (eV 0 19 (pB C) (eO 1 20 [(2,0,3)] (iv a.num) c (eO 2 21 [(1,0,5)] (qv b) c (ai 3 22 c (fun _ _ c=>eM b aM _ _ c.g) (fun _ _ c=>ai 4 23 c (fun _ _ c=>dQ b.den _ _ c.g) (fun _ _ c=>ai 5 24 c (fun _ _ c=>ji a.num (b.den:Int) q (by first|assumption|exact hq) cB (show (wds b.den).length<=1000000000 by first|assumption|omega) _ _ c.g c.f.1) (fun _ _ c=>eP [] e c 25 [uV 0,eS] (fun _ _ W c=>tP 7 0 0 (nc q) c (fun _ c=>tN (cQ ?_))))))))));have e:=c;refine cR 7 [⟨6,6,.cells (J8 [uV 0,eS]) 25 (0,0)⟩] mixed c (bv (dM kR (fun _ _=>by kernel_rfl)) aq) (eV 0 25 (pB D) (eO 1 26 [(2,0,3)] (iv b.num) c (eO 2 27 [(3,0,5)] (qv a) c (ai 3 28 c (fun _ _ c=>eM a aM _ _ c.g) (fun _ _ c=>ai 4 29 c (fun _ _ c=>dQ a.den _ _ c.g) (fun _ _ c=>ai 5 30 c (fun _ _ c=>ji b.num (a.den:Int) r (by first|assumption|exact hr) cB (show (wds a.den).length<=1000000000 by first|assumption|omega) _ _ c.g c.f.1) (fun _ _ c=>eP [] e c 25 [uV 0,eS] (fun _ _ M c=>tP 7 0 0 (nc r) c (fun _ c=>tN (cQ (cR 19 [] mixed c aq ?_)))))))))));refine eV 0 31 (pB C) (eO 1 32 [(4,0,3)] (iv a.num) c (eO 2 33 [(1,0,2)] (nv q) c (eV 4 35 (pB D) (eO 5 36 [(3,0,3)] (iv b.num) c (eO 6 37 [(0,0,2)] (nv r) c (eO 9 40 [(4,0,5)] (qv a) c (eO 11 42 [(0,0,2)] (nv r) c (eO 13 44 [(3,0,5)] (qv b) c (eO 15 46 [(1,0,2)] (nv q) c (ai 3 34 c (fun _ _ c=>lz a.num q aM aM cB cB _ _ c.g) (fun _ _ c=>ai 7 38 c (fun _ _ c=>lz b.num r aM aM cB cB _ _ c.g) (fun _ _ c=>ai 8 39 c (fun _ _ c=>Cx (a.num/(q:Int)) (b.num/(r:Int)) cB _ _ c.g) (fun _ _ c=>ai 10 41 c (fun _ _ c=>eM a aM _ _ c.g) (fun _ _ c=>ai 12 43 c (fun _ _ c=>gJ a.den r aM cB cB _ _ c.g) (fun _ _ c=>ai 14 45 c (fun _ _ c=>eM b aM _ _ c.g) (fun _ _ c=>ai 16 47 c (fun _ _ c=>gJ b.den q aM cB cB _ _ c.g) (fun _ _ c=>ai 17 48 c (fun _ _ c=>o3 (a.den/r) (b.den/q) cB cB _ _ c.g) (fun _ _ c=>ai 18 49 c (fun _ _ c=>jy (a*b) ((a.num/(q:Int))*(b.num/(r:Int))) ((a.den/r)*(b.den/q)) (by first|assumption|exact d|exact (d).symm) (by first|assumption|exact l.symm) aM _ _ c.g) (fun _ _ c=>bY c (fun _ _ c=>tP 19 2 0 (qc (a*b)) c (fun _ c=>tN (cj [(4,pB V)] ?_))))))))))))))))))))));exact kX (c.ret [(2,0,5)] (qv (a*b)) rfl)
theorem Ex (a b:Rat)(ha:LQ 100000000 a)(hb:LQ 100000000 b)(H:a.den=1)(W:b.den≠1)(w:World)(h:Hp)(g:G w h)(S:Tab h):CV 98 #[qv a,qv b] w h (qv (a*b)):=by
 have d:=((sS g).add (K:=fun I=>Tab I) S);have x:=ha;have C:=hb;obtain ⟨y,l⟩:=ha;obtain ⟨B,j⟩:=hb;obtain ⟨q,hq⟩:∃ q,q=J0 (ab a.num) b.den:=⟨_,rfl⟩;obtain ⟨r,hr⟩:∃ r,r=J0 (ab b.num) a.den:=⟨_,rfl⟩;obtain ⟨e,p,z,u,hq0,Z⟩:=ki a b q r hq hr;have hql:(wds q).length<=100000000:=aA (by rw[hq];exact Kw _ b.den_pos) j;have V:(wds r).length<=100000000:=aA (by rw[hr];exact Kw _ a.den_pos) l;have haq:(wds (ab (a.num/(q:Int)))).length<=100000000:=aA (bX _ _ z) y;have X:(wds (ab (b.num/(r:Int)))).length<=100000000:=aA (bX _ _ u) B;have har:(wds (a.den/r)).length<=100000000:=aA (yN _ _) l;have J:(wds (b.den/q)).length<=100000000:=aA (yN _ _) j;have Q:=@cX (a.den/r) (b.den/q);have M:=ir (a.num/(q:Int)) (b.num/(r:Int));have L:LQ 1000000000 (a*b):=⟨by rw[e];omega,by rw[p];omega⟩;have ha:=x;have hb:=C;refine go Tryz.func98 [(0,qv a),(1,qv b)] rfl (aD (lA 2 29 (qc a) d (fun D w2 h3 d=>lA 3 29 (qc b) d (fun F w5 h6 d=>lA 4 29 a1 d (fun Y w8 h9 d=>af (aa d [.o (qv a) 2 0 5] (am 8 d (dt a aM aM _ _ d.g) (fun _ _ d=>lL d [.c,.o (qv b) 1 0 5] (am 11 d (fc b aM aM _ _ d.g) (fun _ _ d=>lL d [.v qF] (ah (cK (cQ ?_)))))))))))));have i:=d;refine cR 7 [⟨6,5,.cells (J8 [uV 0,eS]) 25 (0,0)⟩] mixed d (bv (dM kR (fun _ _=>by kernel_rfl)) aq) (eV 0 19 (pB D) (eO 1 20 [(2,0,3)] (iv a.num) d (eO 2 21 [(1,0,5)] (qv b) d (ai 3 22 d (fun _ _ d=>eM b aM _ _ d.g) (fun _ _ d=>ai 4 23 d (fun _ _ d=>dQ b.den _ _ d.g) (fun _ _ d=>ai 5 24 d (fun _ _ d=>ji a.num (b.den:Int) q (by first|assumption|exact hq) cB (show (wds b.den).length<=1000000000 by first|assumption|omega) _ _ d.g d.f.1) (fun _ _ d=>eP [] i d 25 [uV 0,eS] (fun _ _ O d=>tP 7 0 0 (nc q) d (fun _ d=>tN (cQ ?_))))))))));have i:=d;refine cR 7 [⟨6,6,.cells (J8 [uV 0,eS]) 25 (0,0)⟩] mixed d (bv (dM kR (fun _ _=>by kernel_rfl)) aq) (eV 0 25 (pB F) (eO 1 26 [(2,0,3)] (iv b.num) d (eO 2 27 [(3,0,5)] (qv a) d (ai 3 28 d (fun _ _ d=>eM a aM _ _ d.g) (fun _ _ d=>ai 4 29 d (fun _ _ d=>dQ a.den _ _ d.g) (fun _ _ d=>ai 5 30 d (fun _ _ d=>ji b.num (a.den:Int) r (by first|assumption|exact hr) cB (show (wds a.den).length<=1000000000 by first|assumption|omega) _ _ d.g d.f.1) (fun _ _ d=>eP [] i d 25 [uV 0,eS] (fun _ _ U d=>tP 7 0 0 (nc r) d (fun _ d=>tN (cQ (cR 19 [] mixed d aq ?_)))))))))));refine eV 0 31 (pB D) (eO 1 32 [(4,0,3)] (iv a.num) d (eO 2 33 [(1,0,2)] (nv q) d (eV 4 35 (pB F) (eO 5 36 [(3,0,3)] (iv b.num) d (eO 6 37 [(0,0,2)] (nv r) d (eO 9 40 [(4,0,5)] (qv a) d (eO 11 42 [(0,0,2)] (nv r) d (eO 13 44 [(3,0,5)] (qv b) d (eO 15 46 [(1,0,2)] (nv q) d (ai 3 34 d (fun _ _ d=>lz a.num q aM aM cB cB _ _ d.g) (fun _ _ d=>ai 7 38 d (fun _ _ d=>lz b.num r aM aM cB cB _ _ d.g) (fun _ _ d=>ai 8 39 d (fun _ _ d=>Cx (a.num/(q:Int)) (b.num/(r:Int)) cB _ _ d.g) (fun _ _ d=>ai 10 41 d (fun _ _ d=>eM a aM _ _ d.g) (fun _ _ d=>ai 12 43 d (fun _ _ d=>gJ a.den r aM cB cB _ _ d.g) (fun _ _ d=>ai 14 45 d (fun _ _ d=>eM b aM _ _ d.g) (fun _ _ d=>ai 16 47 d (fun _ _ d=>gJ b.den q aM cB cB _ _ d.g) (fun _ _ d=>ai 17 48 d (fun _ _ d=>o3 (a.den/r) (b.den/q) cB cB _ _ d.g) (fun _ _ d=>ai 18 49 d (fun _ _ d=>jy (a*b) ((a.num/(q:Int))*(b.num/(r:Int))) ((a.den/r)*(b.den/q)) (by first|assumption|exact e|exact (e).symm) (by first|assumption|exact p.symm) aM _ _ d.g) (fun _ _ d=>bY d (fun _ _ d=>tP 19 2 0 (qc (a*b)) d (fun _ d=>tN (cj [(4,pB Y)] ?_))))))))))))))))))))));exact kX (d.ret [(2,0,5)] (qv (a*b)) rfl)
theorem iS (a b:Rat)(ha:LQ 100000000 a)(hb:LQ 100000000 b)(w:World)(h:Hp)(g:G w h)(c:Tab h):CV 98 #[qv a,qv b] w h (qv (a*b)):=by
 by_cases h1:a.den=1
 ·by_cases h2:b.den=1
  ·exact DE a b ha hb h1 h2 w h g c
  ·exact Ex a b ha hb h1 h2 w h g c
 ·exact Fo a b ha hb h1 w h g c
theorem LQ.neg {k:Nat}{a:Rat}(h:LQ k a):LQ k (-a):=⟨by rw[Ku];unfold ab;rw[Ky];exact h.1,by rw[Kv];exact h.2⟩
theorem Ib (a b:Rat)(ha:LQ 100000000 a)(hb:LQ 100000000 b)(w:World)(h:Hp)(g:G w h)(i:Tab h):CV 97 #[qv a,qv b] w h (qv (a-b)):=by
 have c:=((sS g).add (K:=fun e=>Tab e) i);have d:=hb.neg;refine go Tryz.func97 [(0,qv a),(1,qv b)] rfl (aD (lA 2 29 (qc a) c (fun l w2 u c=>lA 3 29 (qc b) c (fun p o z c=>lA 4 29 a1 c (fun x j y c=>af (cR 4 [] mixed c aq ?_))))));exact eO 0 5 [(2,0,5)] (qv a) c (eO 1 6 [(1,0,5)] (qv b) c (ai 2 7 c (fun _ _ c=>Bd b aM _ _ c.g) (fun _ _ c=>ai 3 8 c (fun _ _ c=>nu a (-b) aM aM _ _ c.g c.f.1) (fun _ _ c=>bY c (fun _ _ c=>tP 4 0 0 (qc (a+(-b))) c (fun _ c=>tN (kX (c.ret [(0,0,5)] (qv (a+(-b))) (by rw[Kz])))))))))
theorem LQ.add {k l:Nat}{a b:Rat}(ha:LQ k a)(hb:LQ l b):LQ (k+l+1) (a+b):=by
 obtain ⟨p,f⟩:=ha;obtain ⟨z,c⟩:=hb;obtain ⟨q,hq⟩:∃ q,q=J0 a.den b.den:=⟨_,rfl⟩;obtain ⟨up,hup⟩:∃ up,up=a.num*((b.den/q:Nat):Int)+b.num*((a.den/q:Nat):Int):=⟨_,rfl⟩;obtain ⟨r,hr⟩:∃ r,r=J0 (ab up) q:=⟨_,rfl⟩;obtain ⟨d,h,e,i,B,D⟩:=kE a b q r up hq hup hr;have C:=aA (yN a.den q) f;have o:=aA (yN b.den q) c;have y:=aA (yN b.den r) c;have u:=dd a.num (b.den/q);have j:=dd b.num (a.den/q);have x:=@cX (a.den/q) (b.den/r);refine ⟨?_,by rw[h];omega⟩;rw[d];refine aA (bX up r e) ?_;rw[hup];exact eu (cJ (show ab _<=ab _+ab _ from Kx _ _)) (pQ oM oM)
theorem LQ.mul {k l:Nat}{a b:Rat}(ha:LQ k a)(hb:LQ l b):LQ (k+l) (a*b):=by
 obtain ⟨i,c⟩:=ha;obtain ⟨e,j⟩:=hb;obtain ⟨d,h,o,f,u,p⟩:=ki a b _ _ rfl rfl;refine ⟨?_,?_⟩
 ·rw[d]
  have h1:=aA (bX _ _ o) i;have x:=aA (bX _ _ f) e;exact eu (ir _ _) oM
 ·rw[h]
  have h1:=aA (yN a.den (J0 (ab b.num) a.den)) c;have x:=aA (yN b.den (J0 (ab a.num) b.den)) j;exact eu cX oM
theorem LQ.mono {k l:Nat}{a:Rat}(h:LQ k a)(b:k<=l):LQ l a:=⟨eu h.1 b,eu h.2 b⟩
def dV (a b:Rat):Int:=ee (a.num*b.den) (b.num*a.den)
theorem fq {a b:Rat}(h1:a.den=1)(c:b.den=1):ee a.num b.num=dV a b:=by unfold dV;rw[h1,c];simp
theorem fX {a b:Rat}(h:(a.num.sign != b.num.sign)=true):ee a.num b.num=dV a b:=by
 have h:a.num.sign≠b.num.sign:=by simpa using h
 have ha:=a.den_pos;have hb:=b.den_pos
 unfold dV ee
 rcases Ke a.num 0 with p|p|p<;>rcases Ke b.num 0 with q|q|q
 ·exact absurd (by rw[JW p,JW q]) h
 ·have:a.num*(b.den:Int)<0:=KA p oM
  rw[q];simp;rw[if_pos p,if_pos this]
 ·have d:a.num*(b.den:Int)<0:=KA p oM
  have c:0<b.num*(a.den:Int):=KB q oM;rw[if_pos oM,if_pos oM]
 ·have:b.num*(a.den:Int)<0:=KA q oM
  rw[p];simp;rw[if_neg oM,if_pos q,if_neg oM,if_pos this]
 ·exact absurd (by rw[p,q]) h
 ·have:0<b.num*(a.den:Int):=KB q oM
  rw[p];simp;rw[if_pos q,if_pos this]
 ·have d:0<a.num*(b.den:Int):=KB p oM
  have c:b.num*(a.den:Int)<0:=KA q oM;rw[if_neg oM,if_pos oM,if_neg oM,if_pos oM]
 ·have:0<a.num*(b.den:Int):=KB p oM
  rw[q];simp;rw[if_neg oM,if_pos p,if_neg oM,if_pos this]
 ·exact absurd (by rw[JX p,JX q]) h
theorem DA (a b:Rat)(ha:LQ 100000000 a)(hb:LQ 100000000 b)(d:a.den=1)(f:b.den=1)(w:World)(h:Hp)(g:G w h):CV 13 #[qv a,qv b] w h (iV (dV a b)):=by
 have c:=sS g;have e:=ha;have i:=hb;obtain ⟨l,z⟩:=e;obtain ⟨B,p⟩:=i;have u:=dd a.num b.den;have j:=dd b.num a.den;refine go Tryz.func13 [(0,qv a),(1,qv b)] rfl (aD (lA 2 29 (qc a) c (fun x w2 H c=>lA 3 29 (qc b) c (fun y D J c=>lL c ac (af (cQ (cR 13 [] mixed c aq ?_)))))));exact eO 0 5 [(1,0,5)] (qv a) c (ai 1 6 c (fun _ _ c=>dt a aM aM _ _ c.g) (fun I C c=>eV 2 7 qT (eO 3 8 [(0,0,5)] (qv b) c (ai 4 9 c (fun _ _ c=>dt b aM aM _ _ c.g) (fun F _ c=>eV 5 10 qT (eV 6 11 qT (eG 7 12 (eG 8 13 (eG 9 14 (eG 10 15 (eG 11 16 (eV 12 17 qT (bY c (fun _ _ c=>tN (cl (aa c [.v (pB x),.o (iv a.num) 1 0 3,.v (pB y),.o (iv b.num) 0 0 3] (am 22 c (vM a.num b.num cB cB _ _ c.g) (fun _ _ c=>lL c ac (ae c [] (iV (ee a.num b.num)) (congrArg (Value.int .i64) (by first|rfl|exact fq d f|exact fX ‹_›)))))))))))))))))))))
theorem Fe (a b:Rat)(ha:LQ 100000000 a)(hb:LQ 100000000 b)(d:a.den≠1)(w:World)(h:Hp)(g:G w h):CV 13 #[qv a,qv b] w h (iV (dV a b)):=by
 have c:=sS g;have f:=ha;have i:=hb;obtain ⟨u,z⟩:=f;obtain ⟨B,x⟩:=i;have y:=dd a.num b.den;have p:=dd b.num a.den;refine go Tryz.func13 [(0,qv a),(1,qv b)] rfl (aD (lA 2 29 (qc a) c (fun j w2 I c=>lA 3 29 (qc b) c (fun l F K c=>lL c ac (af (cQ (cR 13 [] mixed c aq ?_)))))));refine eO 0 5 [(1,0,5)] (qv a) c (ai 1 6 c (fun _ _ c=>fc a aM aM _ _ c.g) (fun J D c=>eV 2 7 qF (eG 3 8 (eG 4 9 (eV 5 10 qF (eV 6 11 qF (eO 7 12 [(1,0,5)] (qv a) c (eO 9 14 [(0,0,5)] (qv b) c (ai 8 13 c (fun _ _ c=>gM a aM _ _ c.g) (fun H _ c=>ai 10 15 c (fun _ _ c=>gM b aM _ _ c.g) (fun _ _ c=>?_)))))))))));cases e:(((a.num).sign:Int) != ((b.num).sign:Int))
 .
  have C:=aY e;refine eB 11 16 e (eV 12 17 qF (bY c (fun _ _ c=>tN (cW (cK (cQ (cR 11 [] mixed c aq ?_)))))));exact eV 0 23 (pB j) (eO 1 24 [(1,0,3)] (iv a.num) c (eO 2 25 [(0,0,5)] (qv b) c (eV 5 28 (pB l) (eO 6 29 [(0,0,3)] (iv b.num) c (eO 7 30 [(1,0,5)] (qv a) c (ai 3 26 c (fun _ _ c=>eM b aM _ _ c.g) (fun _ _ c=>ai 4 27 c (fun _ _ c=>ij a.num b.den cB _ _ c.g) (fun _ _ c=>ai 8 31 c (fun _ _ c=>eM a aM _ _ c.g) (fun _ _ c=>ai 9 32 c (fun _ _ c=>ij b.num a.den cB _ _ c.g) (fun _ _ c=>ai 10 33 c (fun _ _ c=>vM (a.num*(b.den:Int)) (b.num*(a.den:Int)) cB cB _ _ c.g) (fun _ _ c=>bY c (fun _ _ c=>tV 11 4 (iV (ee (a.num*(b.den:Int)) (b.num*(a.den:Int)))) (tN (kX (c.ret [] (iV (ee (a.num*(b.den:Int)) (b.num*(a.den:Int)))) (congrArg (Value.int .i64) (by first|rfl|exact fq d hwb|exact fX ‹_›)))))))))))))))))
 have C:=a6 e;exact eB 11 16 e (eV 12 17 qT (bY c (fun _ _ c=>tN (cl (aa c [.v (pB j),.o (iv a.num) 1 0 3,.v (pB l),.o (iv b.num) 0 0 3] (am 22 c (vM a.num b.num cB cB _ _ c.g) (fun _ _ c=>lL c ac (ae c [] (iV (ee a.num b.num)) (congrArg (Value.int .i64) (by first|rfl|exact fq d hwb|exact fX ‹_›))))))))))
theorem D7 (a b:Rat)(ha:LQ 100000000 a)(hb:LQ 100000000 b)(d:a.den=1)(e:b.den≠1)(w:World)(h:Hp)(g:G w h):CV 13 #[qv a,qv b] w h (iV (dV a b)):=by
 have c:=sS g;have i:=ha;have j:=hb;obtain ⟨x,B⟩:=i;obtain ⟨C,y⟩:=j;have z:=dd a.num b.den;have u:=dd b.num a.den;refine go Tryz.func13 [(0,qv a),(1,qv b)] rfl (aD (lA 2 29 (qc a) c (fun l w2 J c=>lA 3 29 (qc b) c (fun p H L c=>lL c ac (af (cQ (cR 13 [] mixed c aq ?_)))))));refine eO 0 5 [(1,0,5)] (qv a) c (ai 1 6 c (fun _ _ c=>dt a aM aM _ _ c.g) (fun K F c=>eV 2 7 qT (eO 3 8 [(0,0,5)] (qv b) c (ai 4 9 c (fun _ _ c=>fc b aM aM _ _ c.g) (fun I _ c=>eV 5 10 qF (eV 6 11 qF (eO 7 12 [(1,0,5)] (qv a) c (eO 9 14 [(0,0,5)] (qv b) c (ai 8 13 c (fun _ _ c=>gM a aM _ _ c.g) (fun _ _ c=>ai 10 15 c (fun _ _ c=>gM b aM _ _ c.g) (fun _ _ c=>?_)))))))))));cases f:(((a.num).sign:Int) != ((b.num).sign:Int))
 .
  have D:=aY f;refine eB 11 16 f (eV 12 17 qF (bY c (fun _ _ c=>tN (cW (cK (cQ (cR 11 [] mixed c aq ?_)))))));exact eV 0 23 (pB l) (eO 1 24 [(1,0,3)] (iv a.num) c (eO 2 25 [(0,0,5)] (qv b) c (eV 5 28 (pB p) (eO 6 29 [(0,0,3)] (iv b.num) c (eO 7 30 [(1,0,5)] (qv a) c (ai 3 26 c (fun _ _ c=>eM b aM _ _ c.g) (fun _ _ c=>ai 4 27 c (fun _ _ c=>ij a.num b.den cB _ _ c.g) (fun _ _ c=>ai 8 31 c (fun _ _ c=>eM a aM _ _ c.g) (fun _ _ c=>ai 9 32 c (fun _ _ c=>ij b.num a.den cB _ _ c.g) (fun _ _ c=>ai 10 33 c (fun _ _ c=>vM (a.num*(b.den:Int)) (b.num*(a.den:Int)) cB cB _ _ c.g) (fun _ _ c=>bY c (fun _ _ c=>tV 11 4 (iV (ee (a.num*(b.den:Int)) (b.num*(a.den:Int)))) (tN (kX (c.ret [] (iV (ee (a.num*(b.den:Int)) (b.num*(a.den:Int)))) (congrArg (Value.int .i64) (by first|rfl|exact fq d e|exact fX ‹_›)))))))))))))))))
 have D:=a6 f;exact eB 11 16 f (eV 12 17 qT (bY c (fun _ _ c=>tN (cl (aa c [.v (pB l),.o (iv a.num) 1 0 3,.v (pB p),.o (iv b.num) 0 0 3] (am 22 c (vM a.num b.num cB cB _ _ c.g) (fun _ _ c=>lL c ac (ae c [] (iV (ee a.num b.num)) (congrArg (Value.int .i64) (by first|rfl|exact fq d e|exact fX ‹_›))))))))))
theorem tJ (a b:Rat)(ha:LQ 100000000 a)(hb:LQ 100000000 b)(w:World)(h:Hp)(g:G w h):CV 13 #[qv a,qv b] w h (iV (dV a b)):=by
 by_cases h1:a.den=1
 ·by_cases h2:b.den=1
  ·exact DA a b ha hb h1 h2 w h g
  ·exact D7 a b ha hb h1 h2 w h g
 ·exact Fe a b ha hb h1 w h g
theorem iq {a b:Rat}:dV a b<0↔a<b:=by
 unfold dV ee
 rw[Rat.lt_iff]
 split
 ·simp;assumption
 ·split<;>simp<;>omega
theorem iw {a b:Rat}:dV a b>0↔b<a:=by
 unfold dV ee
 rw[Rat.lt_iff]
 split
 ·simp;omega
 ·split<;>simp<;>omega
def mkR (n d:Int):Rat:=mkRat (if d<0 then -n else n) (ab d)
theorem GE (a b:Rat)(ha:LQ 100000000 a)(hb:LQ 100000000 b)(w:World)(h:Hp)(g:G w h):CV 103 #[qv a,qv b] w h (qv (if a<b then b else a)):=by
 have c:=sS g;refine go Tryz.func103 [(0,qv a),(1,qv b)] rfl (aD (lA 2 29 (qc a) c (fun j w2 u c=>lA 3 29 (qc b) c (fun p l z c=>lA 4 29 a1 c (fun x i y c=>af (aa c [.o (qv b) 1 0 5,.o (qv a) 2 0 5] (am 7 c (tJ b a aM aM _ _ c.g) (fun _ _ c=>?_))))))));cases d:(decide ((0:Int)<(dV b a:Int)))
 .
  have f:=oF d;exact lB 8 d (ah (cK (aa c [.o (qv a) 2 0 5] (lP 0 0 (qc a) c (fun _ c=>ae c [(0,0,5)] (qv a) (by rw[if_neg (fun e=>by have:=iw.2 e;omega)]))))))
 have f:=oT d;exact lB 8 d (au (aa c [.o (qv b) 1 0 5] (lP 0 0 (qc b) c (fun _ c=>ae c [(0,0,5)] (qv b) (by rw[if_pos (iw.1 oM)])))))
theorem DT (n d:Int)(j:d<0)(c:(wds (ab n)).length<=1000000000)(C:(wds (ab d)).length<=1000000000)(w:World)(h:Hp)(g:G w h)(x:Tab h):CV 35 #[iv n,iv d] w h (.tuple #[qv (mkR n d),.bool true]):=by
 have a:=((sS g).add (K:=fun l=>Tab l) x);have z:=JW j;have u:0<ab d:=by unfold ab;omega
 have y:(wds (ab (-n))).length<=1000000000:=by unfold ab;rw[Ky];exact c
 refine go Tryz.func35 [(0,iv n),(1,iv d)] rfl (aD (lA 2 27 (ic n) a (fun F w2 J a=>lA 3 27 (ic d) a (fun I H O a=>lA 4 29 a1 a (fun L D M a=>lL a ac (af (aa a [.o (iv d) 1 0 3] (am 7 a (lk d cB _ _ a.g) (fun _ _ a=>?_)))))))));have i:(((d).sign:Int) == (0:Int))=false:=cD oM;have b:=ag i;refine lB 8 i (ah (cK (cQ (aa a [.o (iv d) 1 0 3] (am 11 a (lk d cB _ _ a.g) (fun _ _ a=>?_))))));have ⟨B,e⟩:=dT (p:=((d).sign:Int)<(0:Int)) oM;refine lB 12 B (au (kQ (lL a [.o (iv n) 2 0 3] (am 14 a (Hi n cB _ _ a.g) (fun _ _ a=>lP 2 0 (ic (-n)) a (fun _ a=>af (cR 4 [] mixed a aq ?_)))))));exact eO 0 15 [(2,0,3)] (iv (-n)) a (eO 1 16 [(1,0,3)] (iv d) a (ai 2 17 a (fun _ _ a=>tH d _ _ a.g) (fun _ _ a=>ai 3 18 a (fun _ _ a=>sO (-n) (ab d) cB cB cB _ _ a.g a.f.1) (fun _ _ a=>bY a (fun _ _ a=>tP 4 0 0 (qc (mkRat (-n) (ab d))) a (fun _ a=>tV 5 5 qT (tN (kX (a.ret [(0,0,5)] (.tuple #[qv (mkRat (-n) (ab d)),qT]) (by unfold mkR;rw[if_pos j]))))))))))
theorem EI (n d:Int)(B:0<d)(u:(wds (ab n)).length<=1000000000)(z:(wds (ab d)).length<=1000000000)(w:World)(h:Hp)(g:G w h)(l:Tab h):CV 35 #[iv n,iv d] w h (.tuple #[qv (mkR n d),.bool true]):=by
 have a:=((sS g).add (K:=fun i=>Tab i) l);have x:=JX B;have j:0<ab d:=by unfold ab;omega
 refine go Tryz.func35 [(0,iv n),(1,iv d)] rfl (aD (lA 2 27 (ic n) a (fun D w2 I a=>lA 3 27 (ic d) a (fun H F M a=>lA 4 29 a1 a (fun J C L a=>lL a ac (af (aa a [.o (iv d) 1 0 3] (am 7 a (lk d cB _ _ a.g) (fun _ _ a=>?_)))))))));have e:(((d).sign:Int) == (0:Int))=false:=cD oM;have b:=ag e;refine lB 8 e (ah (cK (cQ (aa a [.o (iv d) 1 0 3] (am 11 a (lk d cB _ _ a.g) (fun _ _ a=>?_))))));have ⟨y,c⟩:=dF (p:=((d).sign:Int)<(0:Int)) oM;refine lB 12 y (ah (cK (cQ (cR 4 [] mixed a aq ?_))));exact eO 0 15 [(2,0,3)] (iv n) a (eO 1 16 [(1,0,3)] (iv d) a (ai 2 17 a (fun _ _ a=>tH d _ _ a.g) (fun _ _ a=>ai 3 18 a (fun _ _ a=>sO n (ab d) cB cB cB _ _ a.g a.f.1) (fun _ _ a=>bY a (fun _ _ a=>tP 4 0 0 (qc (mkRat n (ab d))) a (fun _ a=>tV 5 5 qT (tN (kX (a.ret [(0,0,5)] (.tuple #[qv (mkRat n (ab d)),qT]) (by unfold mkR;rw[if_neg oM]))))))))))
theorem G9 (n d:Int)(e:d≠0)(b:(wds (ab n)).length<=1000000000)(a:(wds (ab d)).length<=1000000000)(w:World)(h:Hp)(g:G w h)(c:Tab h):CV 35 #[iv n,iv d] w h (.tuple #[qv (mkR n d),.bool true]):=by
 rcases Ke d 0 with h1|h1|h1
 ·exact DT n d h1 b a w h g c
 ·exact absurd h1 e
 ·exact EI n d h1 b a w h g c
theorem pg (a b:Rat)(ha:LQ 100000000 a)(hb:LQ 100000000 b)(hz:b.num≠0)(w:World)(h:Hp)(g:G w h)(H:Tab h):CV 99 #[qv a,qv b] w h (.tuple #[qv (a/b),.bool true]):=by
 have c:=((sS g).add (K:=fun C=>Tab C) H);have j:=ha;have y:=hb;obtain ⟨D,I⟩:=j;obtain ⟨x,l⟩:=y;have p:((b.num).sign == (0:Int))=false:=by simpa using hz
 obtain ⟨i,d⟩:=tj b hz;have z:(wds (ab (cF (decide ((b.num).sign<(0:Int))) b.den))).length<=100000000:=by rw[eD];exact l
 have u:LQ 100000000 b⁻¹:=⟨by rw[i];exact z,by rw[d];exact x⟩;have B:LQ 1000000000 b⁻¹:=u.mono oM;refine go Tryz.func99 [(0,qv a),(1,qv b)] rfl (aD (lA 2 29 (qc a) c (fun L w2 O c=>lA 3 29 (qc b) c (fun F M U c=>lA 4 29 a1 c (fun Q J S c=>lL c ac (af (aa c [.o (qv b) 1 0 5] (am 7 c (gM b aM _ _ c.g) (fun _ _ c=>lV 8 qF ?_ (hr:=rb (e:=((b.num).sign == (0:Int))) kR p))))))))));refine ah (cK (cQ (cR 12 [] mixed c aq ?_)));exact eO 0 10 [(2,0,5)] (qv a) c (eO 1 11 [(1,0,5)] (qv b) c (eO 4 14 [(1,0,5)] (qv b) c (eV 7 17 (pB F) (eO 8 18 [(1,0,3)] (iv b.num) c (ai 2 12 c (fun _ _ c=>gM b aM _ _ c.g) (fun _ _ c=>eV 3 13 (.bool (decide (((b.num).sign:Int)<(0:Int)))) (ai 5 15 c (fun _ _ c=>eM b aM _ _ c.g) (fun _ _ c=>ai 6 16 c (fun _ _ c=>fh (decide (((b.num).sign:Int)<(0:Int))) b.den cB _ _ c.g) (fun _ _ c=>ai 9 19 c (fun _ _ c=>tH b.num _ _ c.g) (fun _ _ c=>ai 10 20 c (fun _ _ c=>jy b⁻¹ (cF (decide (((b.num).sign:Int)<(0:Int))) b.den) (ab b.num) i d.symm aM _ _ c.g) (fun _ _ c=>ai 11 21 c (fun _ _ c=>iS a (b⁻¹) aM aM _ _ c.g c.f.1) (fun _ _ c=>bY c (fun _ _ c=>tP 12 0 0 (qc (a*(b⁻¹))) c (fun _ c=>tV 13 5 qT (tN (kX (c.ret [(0,0,5)] (.tuple #[qv (a*(b⁻¹)),qT]) (by rw[Rat.div_def]))))))))))))))))))
theorem GI (a:Rat)(hb:LQ 100000000 (0:Rat))(w:World)(h:Hp)(g:G w h):CV 99 #[qv a,qv (0:Rat)] w h (.tuple #[qv 0,.bool false]):=by
 have b:=sS g;have e:((0:Rat).num).sign=0:=rfl;refine go Tryz.func99 [(0,qv a),(1,qv (0:Rat))] rfl (aD (lA 2 29 (qc a) b (fun l w2 x b=>lA 3 29 (qc (0:Rat)) b (fun y p u b=>lA 4 29 a1 b (fun i f j b=>lL b ac (af (aa b [.o (qv (0:Rat)) 1 0 5] (am 7 b (gM (0:Rat) aM _ _ b.g) (fun _ _ b=>?_)))))))));have d:((((0:Rat).num).sign:Int) == (0:Int))=true:=kg oM;have c:=eq_of_beq d;exact lB 8 d (au (aa b [.v ca] (lP 0 0 a1 b (fun _ b=>lL b ac (ae b [(0,0,5)] (.tuple #[.agg #[qF,uV 0,eS,uV 0,eS],qF]) rfl)))))
theorem ua (n d:Int)(j:d≠0):(mkR n d).num=cF (aw n != aw d) (ab n/J0 (ab n) (ab d))/\(mkR n d).den=ab d/J0 (ab n) (ab d)/\0<J0 (ab n) (ab d):=by
  have c:0<ab d:=by unfold ab;omega
  have hz:ab (if d<0 then -n else n)=ab n:=by unfold ab;split<;>omega
  obtain ⟨h1,l,i,h⟩:=hJ (if d<0 then -n else n) (ab d) c;rw[hz] at h1 l i h
  refine ⟨?_,l,h⟩;have f:=o6 _ _ i;rw[hz] at f
  show (mkRat _ _).num=_
  rw[h1,<-f]
  by_cases hn:n=0
  . have hk:ab n/J0 (ab n) (ab d)=0:=by rw[hn];exact Nat.zero_div _
    rw[hk]
    unfold cF
    simp
  . have e:decide ((if d<0 then -n else n).sign<0)=(aw n != aw d):=by
      unfold aw
      rcases Ke n 0 with a|a|a
      . rcases Ke d 0 with b|b|b
        . rw[if_pos b,JX oM];simp[a,b]
        . exact absurd b j
        . rw[if_neg oM,JW a];simp[a,show ¬d<0 by omega]
      . exact absurd a hn
      . rcases Ke d 0 with b|b|b
        . rw[if_pos b,JW oM];simp[show ¬n<0 by omega,b]
        . exact absurd b j
        . rw[if_neg oM,JX a];simp[show ¬n<0 by omega,show ¬d<0 by omega]
    rw[e]
theorem tR {z:Int}(h0 : -9223372036854775808<=z)(h1:z<9223372036854775808):(lim (ab z)).length<=2:=gn (by unfold ab;omega)
theorem JA (z:Int)(h0 : -9223372036854775808<=z)(h1:z<9223372036854775808)(w:World)(h:Hp)(g:G w h):CR 18 #[iV z] w h (fun v h1=>RQ h1 v (z:Rat)):=by
 have a:=sS g;refine go Tryz.func18 [(0,iV z)] rfl (aD (lA 2 39 da a (fun u w2 x a=>aR (lL a ac (lC 4 a (rj z oM oM _ _ a.g) ?_)))));rintro _ p y a ⟨d,j,rfl,c,e⟩;replace a:=a.aS e;refine lC 5 a (nI 1 oM _ _ a.g) ?_;rintro _ _ _ a ⟨b,i,rfl,o,l⟩;replace a:=a.aS l;exact lL a [.v (.agg #[.bool (aw z),qS d ((lim (ab z)).length) j,qS b ((lim 1).length) i])] (lP 0 0 ([.bool (aw z),qS d ((lim (ab z)).length) j,qS b ((lim 1).length) i]) a (fun _ a=>ae a [(0,0,3)] (.agg #[.bool (aw z),qS d ((lim (ab z)).length) j,qS b ((lim 1).length) i]) (by unfold RQ;rw[Ks,Kt];exact ⟨_,_,_,_,rfl,c,o,a.f.2.1,a.f.1⟩)))
theorem ET {P:Program}{Γ:ck}{o:Oper}{t u:TypeId}{x y:Operand}{k ky:IntKind}{a n:Nat}(d:o.op=.binOp .shr t x y u)(b:ev Γ x=.int k (a:Int))(c:ev Γ y=.int ky (n:Int))(e:n<=k.bits)(w:World) :
  (execOp (ev Γ) o).run P w=.ok (.value (.int k ((a/2^n:Nat):Int))) w:=by
 have:=GN (P:=P) d b c e w;rw[show ((a:Int)/2^n)=((a/2^n:Nat):Int) by simp] at this
 exact this
theorem xH {P:Program}{Γ:ck}{o:Oper}{t u:TypeId}{x y:Operand}{ky:IntKind}{a n:Nat}(d:o.op=.binOp .shl t x y u)(b:ev Γ x=.int .u32 (a:Int))(c:ev Γ y=.int ky (n:Int))(e:n<=32)(hf:a*2^n<4294967296)(w:World) :
  (execOp (ev Γ) o).run P w=.ok (.value (.int .u32 ((a*2^n:Nat):Int))) w:=by
 have:=FR (P:=P) d b c e w;rw[show ((a:Int)*2^n)=((a*2^n:Nat):Int) by simp,F9 hf] at this
 exact this
theorem uf (a:Nat)(A:Z9)(c:Nat)(W:(lim a).length<=c)(H:(lim a).length<=4000000000)(w:World)(h:Hp)(g:G w h)(O:S3 A (lim a) h):CR 76 #[.slice A ((lim a).length) c] w h (fun v h1=>∃ A,v=.slice A ((nb a+7)/8) ((nb a+7)/8)/\SlO 1 mr 0 h1 A (fe a ((nb a+7)/8))):=by
 have e:=((sS g).aS O);have Z:=rv a;refine go Tryz.func76 [(0,qS A ((lim a).length) c)] rfl (aa e ac (aR (lL e ac (am 7 e (wL a A c W H _ _ e.g e.f.1) (fun w1 h2 e=>bI 8 ((nb a:Nat)+7) ((nb a)+7) (lV 9 (nV (((nb a)+7)/8)) ?_ (hr:=be (dD (t:=3) (u:=3) (x:=.tmp 8) (y:=.const (iV 8)) (k:=.i64) (a:=(((nb a)+7:Nat):Int)) (b:=(8:Int)) kR kR kR oM _) (dl ((nb a)+7) 8 oM))))))));refine lL e ac (aR (lL e ac (lK 11 5 (((nb a)+7)/8:Nat) 1 1 (.int .u8 0) mr 0 e (fun z w4 Y e=>?_))));have F:(yp (((nb a)+7)/8:Nat) 0).length=(((nb a)+7)/8:Nat):=by simp
 refine lL e ac (af (aa e ac (bh ?_)));refine cj _ (CG.loop (fun D Γ S=>∃ (i:Nat)(l:List Nat)(h_:Hp),D=((nb a+7)/8)-i/\Γ=[(0,qS A ((lim a).length) c),(2,sZ),(3,nV (((nb a)+7)/8)),(4,qS (sB z) (((nb a)+7)/8:Nat) (((nb a)+7)/8:Nat)),(5,nV i)]/\SS w h S h_ [⟨z,5,(l).flatMap mr⟩] [] [S3 A (lim a)]/\i<=((nb a+7)/8)/\l.length=((nb a+7)/8)/\(∀ j,j<i->l.getD (((nb a+7)/8)-1-j) 0=a/256^j%256)) _ ⟨0,yp (((nb a)+7)/8:Nat) 0,Y,rfl,rfl,e.to _ _,JL _,F,(fun j K=>absurd K oM)⟩ ?_);rintro _ _ w7 ⟨i,l,V,hm9,rfl,e,hi,p,L⟩;have hai:=(Ld.lim a).get (i/4);refine cQ (aa e aK ?_);cases C:(decide ((i:Int)<((((nb a)+7)/8:Nat):Int)))
 .
  have X:=oF C;refine lB 14 C (ah (CG.exit ?_))
  show CG _ _ _ _ _ _ _ _
  refine aa e aK (lN (kX ?_));have Q:i=((nb a+7)/8):=by omega
  have I:l=fe a ((nb a+7)/8):=qn p (fun j K=>L j oM);rw[I] at e
  obtain ⟨_,e,B,J,M⟩:=e.pub 0;replace e:=(e.to [] []).aS (SlO.of_flat (sz:=1) (f:=mr) (d:=0) (b:=z) (o:=0) (l:=fe a ((nb a+7)/8)) (fun _=>rfl) B);exact e.ret [] (qS (sB z) (((nb a)+7)/8:Nat) (((nb a)+7)/8:Nat)) (⟨sB z,rfl,e.f.1⟩)
 have X:=oT C;refine lB 14 C (au (cK (cQ (kZ (kQ (lL e aK (bI 19 ((((nb a)+7)/8:Nat)-1) ((((nb a)+7)/8:Nat)-1) ?_)))))));refine lL e ac (bI 21 (((((nb a)+7)/8:Nat)-1:Nat)-(i:Nat)) (((((nb a)+7)/8:Nat)-1:Nat)-i) ?_);refine lL e aK (lV 24 (nV (i/4)) ?_ (hr:=be (dD (t:=3) (u:=3) (x:=.tmp 23) (y:=.const (iV 4)) (k:=.i64) (a:=(i:Int)) (b:=(4:Int)) kR kR kR oM _) (dl i 4 oM)));refine lX 25 A ((lim a).length) c 1 (i/4:Nat) (i/4) ((e.f.1).ok oM) (lH 26 (mW ((lim a).getD (i/4) 0)) e ((e.f.1).el (i/4) oM) (lL e ac (lV 28 (nV (i%4)) ?_ (hr:=be (fR (t:=3) (u:=3) (x:=.tmp 27) (y:=.const (iV 4)) (k:=.i64) (a:=(i:Int)) (b:=(4:Int)) kR kR kR oM _) (dx i 4)))));refine bI 29 (8*(i%4:Nat)) (8*(i%4)) (lV 30 (mV (8*(i%4))) ?_ (hr:=rU (((8*(i%4):Nat):Int)) kR (bM oM oM)));refine lV 31 (mW ((lim a).getD (i/4) 0/2^(8*(i%4)))) ?_ (hr:=ET (t:=150) (u:=151) (x:=.tmp 26) (y:=.tmp 30) (k:=.u32) (ky:=.u64) (a:=(lim a).getD (i/4) 0) (n:=8*(i%4)) kR kR kR (show 8*(i%4)<=32 by omega) _);refine lV 32 (.int .u8 ((lim a).getD (i/4) 0/2^(8*(i%4))%256:Nat)) ?_ (hr:=be (n:=IntKind.wrap .u8 (((lim a).getD (i/4) 0/2^(8*(i%4)):Nat):Int)) kR (AB _));refine lX 33 (sB z) (((nb a)+7)/8:Nat) (((nb a)+7)/8:Nat) 1 (((((nb a)+7)/8:Nat)-1:Nat)-i:Nat) (((((nb a)+7)/8:Nat)-1:Nat)-i:Nat) rfl (lW 0 l mr 1 (((((nb a)+7)/8:Nat)-1:Nat)-i:Nat) ((lim a).getD (i/4) 0/2^(8*(i%4))%256:Nat) e oM (fun _ e=>?_));have zc:((l).set (((((nb a)+7)/8:Nat)-1:Nat)-i:Nat) ((lim a).getD (i/4) 0/2^(8*(i%4))%256:Nat)).length=(((nb a)+7)/8:Nat):=by rw[Gx];exact p
 replace e:=e.to [⟨z,5,((l).set (((((nb a)+7)/8:Nat)-1:Nat)-i:Nat) ((lim a).getD (i/4) 0/2^(8*(i%4))%256:Nat)).flatMap mr⟩] [];refine lN (kQ (lL e ac (bI 16 ((i:Nat)+1) (i+1) ?_)));refine lL e ac (lD ?_);intro a_ U;refine ⟨_,_,?_,⟨i+1,(l).set (((((nb a)+7)/8:Nat)-1:Nat)-i:Nat) ((lim a).getD (i/4) 0/2^(8*(i%4))%256:Nat),V,rfl,rfl,e.to _ _,oM,zc,(gE p oM L (vK a i))⟩,U.to _ kR⟩
 omega
theorem tz {n m:Nat}(h:n<256^m):∀ j,j<(m+3)/4->(yp ((m+3)/4) 0).getD j 0=eU n (m-0) j:=fun j a=>by
 rw[Nat.sub_zero,xO h];simp[a]
theorem t7 {l:List Nat}{n m i x:Nat}(hi:i<m)(c:l.length=(m+3)/4)(hv:∀ j,j<(m+3)/4->l.getD j 0=eU n (m-i) j)(a:x=eU n (m-1-i) ((m-1-i)/4)) :
  ∀ j,j<(m+3)/4->(l.set ((m-1-i)/4) x).getD j 0=eU n (m-(i+1)) j:=by
 intro j b;rw[show m-(i+1)=m-1-i by omega]
 by_cases e:j=(m-1-i)/4
 ·subst e
  have:(m-1-i)/4<l.length:=by omega
  simp[this,a]
 ·rw[mF,if_neg e,show m-1-i+1=m-i by omega,<-hv j b]
  simp only[List.getD_eq_getElem?_getD]
  rw[List.getElem?_set_ne (Ne.symm e)]
theorem sD {n k:Nat}:eU n (k+1) (k/4) ||| (n/256^k%256)*2^(8*(k%4))=eU n k (k/4):=by rw[mF n k (k/4),if_pos rfl]
theorem mP {b k:Nat}(hb:b<256):b*2^(8*(k%4))<4294967296:=by
 have:k%4=0\/k%4=1\/k%4=2\/k%4=3:=by omega
 rcases this with e|e|e|e<;>rw[e]<;>omega
theorem vj {l:List Nat}{n m:Nat}(d:n<256^m)(b:l.length=(m+3)/4)(hv:∀ j,j<(m+3)/4->l.getD j 0=eU n (m-m) j):ak 4294967296 l=n/\Ld l:=by
 constructor
 ·rw[<-jY]
  refine gY l n (fun j a=>by rw[hv j oM,Nat.sub_self,ut]) ?_;refine ey d ?_;rw[b,show (256:Nat)=2^8 by rfl,show (4294967296:Nat)=2^32 by rfl,<-zy,<-zy];exact y6 oM oM
 ·intro x c
  obtain ⟨j,a,rfl⟩:=List.mem_iff_getElem.1 c;have:=hv j oM;have e:l[j]=l.getD j 0:=by simp[a]
  rw[e,this];exact n5 _ _ _
theorem u5 (n m:Nat)(A:Z9)(p:Nat)(hc:m<=p)(hm:m<=1099511627776)(U:n<256^m)(w:World)(h:Hp)(g:G w h)(Y:SlO 1 mr 0 h A (fe n m)):CR 149 #[.slice A m p] w h (fun v h1=>RN h1 v n):=by
 have e:=((sS g).aS Y);have hbl:=jE n m;refine go Tryz.func149 [(0,qS A m p)] rfl (aa e ac (aR (lL e [.c,.v (nV m)] (bI 8 ((m:Nat)+3) (m+3) ?_))));refine lV 9 (nV ((m+3)/4)) ?_ (hr:=be (dD (t:=3) (u:=3) (x:=.tmp 8) (y:=.const (iV 4)) (k:=.i64) (a:=((m+3:Nat):Int)) (b:=(4:Int)) kR kR kR oM _) (dl (m+3) 4 oM));refine lK 10 150 ((m+3)/4) 1 4 (uW 0) fH 0 e (fun C w2 h3 e=>?_);have O:(yp ((m+3)/4) 0).length=((m+3)/4):=by simp
 refine lL e ac (af (aa e ac (bh ?_)));refine cj _ (CG.loop (fun M Γ Z=>∃ (i:Nat)(l:List Nat)(K:Hp),M=m-i/\Γ=[(0,qS A m p),(2,sZ),(3,qS (sB C) ((m+3)/4) ((m+3)/4)),(4,nV i)]/\SS w h Z K [⟨C,150,(l).flatMap fH⟩] [] [fun K=>SlO 1 mr 0 K A (fe n m)]/\i<=m/\l.length=(m+3)/4/\(∀ j,j<(m+3)/4->l.getD j 0=eU n (m-i) j)) _ ⟨0,yp ((m+3)/4) 0,h3,rfl,rfl,e.to _ _,JL _,O,(tz U)⟩ ?_);rintro _ _ w5 ⟨i,l,h6,hm7,rfl,e,hi,z,hv⟩;refine cQ (aa e [.c,.c,.v (nV m)] ?_);cases D:(decide ((i:Int)<(m:Int)))
 .
  have H:=oF D;refine lB 14 D (ah (CG.exit ?_))
  show CG _ _ _ _ _ _ _ _
  refine aa e ac ?_;have L:i=m:=by omega
  rw[L] at hv
  obtain ⟨Q,S⟩:=vj U z hv;obtain ⟨h9,e,I,V,W⟩:=e.pub 0;replace e:=(e.to [] []).aS (SlO.of_flat (sz:=1) (f:=fH) (d:=0) (b:=C) (o:=0) (l:=l) (fun _=>rfl) I);exact am 43 e (xG (sB C) ((m+3)/4) l ((m+3)/4) z oM oM _ _ e.g e.f.1) (fun _ _ e=>lL e ac (ae e [] (qS (sB C) (tl l ((m+3)/4)) ((m+3)/4)) (RN.trim S Q z oM e.f.1)))
 have H:=oT D;refine lB 14 D (au (cK (cQ (kZ (aa e [.c,.v (nV m)] (bI 19 ((m:Nat)-1) (m-1) ?_))))));refine lL e ac (bI 21 ((m-1:Nat)-(i:Nat)) ((m-1)-i) ?_);refine lL e ac (lN (cR 19 [] mixed e aq ?_));refine eV 0 22 (qS (sB C) ((m+3)/4) ((m+3)/4)) (eV 1 23 (nV ((m-1)-i)) (eV 2 24 (nV (((m-1)-i)/4)) ?_ (hv:=fun _=>be (dD (t:=3) (u:=3) (x:=.tmp 23) (y:=.const (iV 4)) (k:=.i64) (a:=(((m-1)-i:Nat):Int)) (b:=(4:Int)) kR kR kR oM _) (dl ((m-1)-i) 4 oM))));refine eV 3 25 (qS (sB C) ((m+3)/4) ((m+3)/4)) (eV 4 26 (nV ((m-1)-i)) (eV 5 27 (nV (((m-1)-i)/4)) ?_ (hv:=fun _=>be (dD (t:=3) (u:=3) (x:=.tmp 26) (y:=.const (iV 4)) (k:=.i64) (a:=(((m-1)-i:Nat):Int)) (b:=(4:Int)) kR kR kR oM _) (dl ((m-1)-i) 4 oM))));refine eX 6 28 (sB C) ((m+3)/4) ((m+3)/4) 1 (((m-1)-i)/4:Nat) (((m-1)-i)/4:Nat) rfl (eQ 7 29 0 l fH 1 0 (((m-1)-i)/4:Nat) (mW ((l).getD (((m-1)-i)/4:Nat) 0)) e oM (eV 8 30 (qS A m p) (eV 9 31 (nV i) (eX 10 32 A m p 1 (i:Nat) i ((e.f.1).ok oM) ?_))));have B:=hv ((m-1-i)/4) oM;have F:l.getD ((m-1-i)/4) 0 ||| (n/256^(m-1-i)%256)*2^(8*((m-1-i)%4))=eU n (m-1-i) ((m-1-i)/4):=by rw[B,show m-i=m-1-i+1 by omega];exact sD
 have J:l.getD ((m-1-i)/4) 0<4294967296:=by rw[B];exact n5 _ _ _
 have B:=hv ((m-1-i)/4) oM;have F:l.getD ((m-1-i)/4) 0 ||| (n/256^(m-1-i)%256)*2^(8*((m-1-i)%4))=eU n (m-1-i) ((m-1-i)/4):=by rw[B,show m-i=m-1-i+1 by omega];exact sD
 have J:l.getD ((m-1-i)/4) 0<4294967296:=by rw[B];exact n5 _ _ _
 refine Jk 11 33 (.int .u8 ((fe n m).getD i 0:Nat)) e ((e.f.1).el i oM) (by rw[iB n m _ oM]) (eV 12 34 (mW (n/256^(m-1-i)%256)) ?_ (hv:=fun _=>rT (((n/256^(m-1-i)%256:Nat):Int)) kR (qB oM oM)));refine eV 13 35 (nV ((m-1)-i)) (eV 14 36 (nV (((m-1)-i)%4)) ?_ (hv:=fun _=>be (fR (t:=3) (u:=3) (x:=.tmp 35) (y:=.const (iV 4)) (k:=.i64) (a:=(((m-1)-i:Nat):Int)) (b:=(4:Int)) kR kR kR oM _) (dx ((m-1)-i) 4)));refine mt 15 37 (8*(((m-1)-i)%4:Nat)) (8*(((m-1)-i)%4:Nat)) (eV 16 38 (mV (8*(((m-1)-i)%4:Nat))) ?_ (hv:=fun _=>rU (((8*(((m-1)-i)%4:Nat):Nat):Int)) kR (bM oM oM)));refine eV 17 39 (mW ((n/256^(m-1-i)%256)*2^(8*((m-1-i)%4)))) ?_ (hv:=fun _=>xH (t:=150) (u:=151) (x:=.tmp 34) (y:=.tmp 38) (ky:=.u64) (a:=n/256^(m-1-i)%256) (n:=8*((m-1-i)%4)) kR kR kR oM (mP oM) _);refine eV 18 40 (mW (eU n (m-1-i) ((m-1-i)/4))) ?_ (hv:=fun _=>be (EB (t:=150) (u:=150) (x:=.tmp 29) (y:=.tmp 39) (a:=l.getD ((m-1-i)/4) 0) (b:=(n/256^(m-1-i)%256)*2^(8*((m-1-i)%4))) kR kR kR J (mP oM) _) (congrArg Int.ofNat F));refine bY e (fun _ zb e=>tX 19 41 (sB C) ((m+3)/4) ((m+3)/4) 1 (((m-1)-i)/4:Nat) (((m-1)-i)/4:Nat) rfl (tW 20 0 l fH 1 (((m-1)-i)/4:Nat) (eU n (m-1-i) ((m-1-i)/4):Nat) e oM (fun _ e=>?_)));have X:((l).set (((m-1)-i)/4:Nat) (eU n (m-1-i) ((m-1-i)/4):Nat)).length=((m+3)/4):=by rw[Gx];exact z
 replace e:=e.to [⟨C,150,((l).set (((m-1)-i)/4:Nat) (eU n (m-1-i) ((m-1-i)/4):Nat)).flatMap fH⟩] [];refine tN (kQ (lL e ac (bI 16 ((i:Nat)+1) (i+1) ?_)));refine lL e ac (lD ?_);intro a_ ka;refine ⟨_,_,?_,⟨i+1,(l).set (((m-1)-i)/4:Nat) (eU n (m-1-i) ((m-1-i)/4):Nat),zb,rfl,rfl,e.to _ _,oM,X,(t7 oM z hv rfl)⟩,ka.to _ kR⟩
 omega
def a8 (q:Rat):Rat:=if q.num<0 then -q else q
theorem mc (q:Rat):(a8 q).num=((ab q.num:Nat):Int):=by
 unfold a8 ab;split
 ·rw[Ku];omega
 ·omega
theorem pO (q:Rat):(a8 q).den=q.den:=by
 unfold a8;split
 ·rw[Kv]
 ·rfl
theorem LQ.ln {q:Rat}(h:LQ 100000000 q):(lim (ab q.num)).length<=300000000:=eu (sf _) (by have:=h.1;omega)
theorem LQ.ld {q:Rat}(h:LQ 100000000 q):(lim q.den).length<=300000000:=eu (sf _) (by have:=h.2;omega)
theorem nl {k:Nat}{q:Rat}(h:LQ k q)(hk:k<=100000000:=by omega):(lim (ab q.num)).length<=300000000:=LQ.ln (h.mono hk)
theorem nD {k:Nat}{q:Rat}(h:LQ k q)(hk:k<=100000000:=by omega):(lim q.den).length<=300000000:=LQ.ld (h.mono hk)
theorem LQ.abs {k:Nat}{q:Rat}(h:LQ k q):LQ k (a8 q):=⟨by rw[mc];exact h.1,by rw[pO];exact h.2⟩
theorem LQ.sub {k l:Nat}{a b:Rat}(ha:LQ k a)(hb:LQ l b):LQ (k+l+1) (a-b):=by rw[Kz];exact ha.add hb.neg
theorem LQ.inv {k:Nat}{q:Rat}(h:LQ k q):LQ k q⁻¹:=by
 by_cases hz:q.num=0
 ·have:q=0:=by rw[<-Rat.num_eq_zero];exact hz
  subst this;rw[Rat.inv_zero];exact h
 ·obtain ⟨h1,a⟩:=tj q hz
  exact ⟨by rw[h1,eD];exact h.2,by rw[a];exact h.1⟩
theorem LQ.div {k l:Nat}{a b:Rat}(ha:LQ k a)(hb:LQ l b):LQ (k+l) (a/b):=by rw[Rat.div_def];exact ha.mul hb.inv
theorem LQ.int {z:Int}(h0 : -9223372036854775808<=z)(h1:z<=9223372036854775807):LQ 1 (z:Rat):=⟨by rw[Ks];exact dR.2 (by unfold ab;omega),by rw[Kt];exact dR.2 oM⟩
theorem LQ.lit {z:Int}(h : -9223372036854775808<=z/\z<=9223372036854775807):LQ 1 (z:Rat):=LQ.int h.1 h.2
def E7 (a b:List Rat):Nat->Rat
  | 0=>0
  | k+1=>E7 a b k+a.getD k 0*b.getD k 0
theorem lw (a:Nat)(A:Z9)(c:Nat)(j:(lim a).length<=c)(b:Nat)(D:Z9)(d:Nat)(p:(lim b).length<=d)(e:(lim a).length<=3000000000)(u:(lim b).length<=1)(hb:0<b)(w:World)(h:Hp)(g:G w h)(f:S3 A (lim a) h)(l:S3 D (lim b) h):CR 119 #[.slice A (lim a).length c,.slice D (lim b).length d] w h (fun v h1=>∃ i o,v=.tuple #[i,o]/\RN h1 i (a/b)/\RN h1 o (a%b)):=by
 have x:=dN.2 hb
 rcases eb a b with h1|h1
 ·exact tI a A c j b D d p e oM h1 w h g f l
 ·exact qz a A c j b D d p e oM h1 oM w h g f l
theorem wD (a:Nat)(A:Z9)(c:Nat)(X:(lim a).length<=c)(b:Nat)(D:Z9)(d:Nat)(hd:(lim b).length<=d)(F:(lim a).length<=3000000000)(H:(lim b).length<=1)(w:World)(h:Hp)(g:G w h)(M:S3 A (lim a) h)(Z:S3 D (lim b) h):CR 118 #[.slice A ((lim a).length) c,.slice D ((lim b).length) d] w h (fun v h1=>RN h1 v (J0 a b)):=by
 have e:=(((sS g).aS M).aS Z);refine go Tryz.func118 [(0,qS A ((lim a).length) c),(1,qS D ((lim b).length) d)] rfl (aa e ac (af (kZ ?_)));replace e:=e.aS e.f.1;replace e:=e.aS e.f.r.1;refine cj _ (CG.loop (fun B Γ Q=>∃ (x:Nat)(j:Z9)(c1:Nat)(y:Nat)(p:Z9)(c2:Nat)(z:Hp),B=y/\Γ=[(4,sZ),(0,qS j ((lim x).length) c1),(1,qS p ((lim y).length) c2)]/\SS w h Q z [] [] [S3 j (lim x),S3 p (lim y),S3 D (lim b),S3 A (lim a)]/\(lim x).length<=c1/\(lim y).length<=c2/\(lim x).length<=3000000000/\(lim y).length<=1/\J0 x y=J0 a b) _ ⟨a,A,c,b,D,d,h,rfl,rfl,e.to _ _,X,hd,F,H,rfl⟩ ?_);rintro _ _ w1 ⟨x,j,c1,y,p,c2,h2,hm3,rfl,e,u,o,W,hl2,L⟩;refine cQ (aa e [.c,.v (nV ((lim y).length))] ?_);cases i:(decide ((0:Int)<(((lim y).length:Nat):Int)))
 .
  have l:=oF i;refine lB 9 i (ah (CG.exit ?_))
  show CG _ _ _ _ _ _ _ _
  refine aa e aK (lN (kX ?_));have I:y=0:=Nat.eq_zero_of_not_pos (fun z=>by have:=dN.2 z;omega);exact e.ret [] (qS j ((lim x).length) c1) (by rw[<-L,I,Ka];exact ⟨j,c1,rfl,u,e.f.1⟩)
 have l:=oT i;refine lB 9 i (au (cK (kZ (aa e aK (lC 13 e (lw x j c1 u y p c2 o oM oM (dN.1 oM) _ _ e.g e.f.1 e.f.2.1) ?_)))));rintro _ w5 h6 e ⟨_,_,rfl,⟨V,O,rfl,hcq,hq⟩,⟨J,K,rfl,C,hr⟩⟩;replace e:=e.aS hr;have U:=ys x (dN.1 (show 0<(lim y).length by omega));have Y:=gH (show x%y<=y by omega);refine lL e [.c,.v (qS V (lim (x/y)).length O),.v (qS J ((lim (x%y)).length) K),.c,.c] (aR (lL e aK (lN (kQ (lL e aK (lD ?_))))));intro a_ S;replace e:=((e.tl.tl.tl.aS e.f.1).aS e.f.r.1);refine ⟨_,_,?_,⟨y,p,c2,x%y,J,K,h6,rfl,rfl,e.to _ _,o,C,oM,oM,(by rw[mB];exact L)⟩,S.to _ kR⟩
 omega
theorem uo (a:Nat)(A:Z9)(c:Nat)(l:(lim a).length<=c)(b:Nat)(D:Z9)(d:Nat)(p:(lim b).length<=d)(q:Nat)(j:q=J0 a b)(e:(lim a).length<=3000000000)(f:(lim b).length<=1)(w:World)(h:Hp)(g:G w h)(i:S3 A (lim a) h)(o:S3 D (lim b) h):CR 118 #[.slice A (lim a).length c,.slice D (lim b).length d] w h (fun v h1=>RN h1 v q):=by
 subst j;exact wD a A c l b D d p e f w h g i o
theorem qG {z:Int}(h0 : -4294967296<z)(h1:z<4294967296):(lim (ab z)).length<=1:=gn (by unfold ab;omega)
theorem DH (x:Int)(A:Z9)(c:Nat)(L:(lim (ab x)).length<=c)(V:(lim (ab x)).length<=2000000000)(y:Int)(D:Z9)(d:Nat)(Q:(lim (ab y)).length<=d)(H:(lim (ab y)).length<=1)(z:y≠0)(w:World)(h:Hp)(g:G w h)(U:S3 A (lim (ab x)) h)(hD:S3 D (lim (ab y)) h):CR 77 #[.agg #[.bool (aw x),.slice A ((lim (ab x)).length) c],.agg #[.bool (aw y),.slice D ((lim (ab y)).length) d]] w h (fun v h1=>RQ h1 v (mkR x y)):=by
 have a:=(((sS g).aS U).aS hD);obtain ⟨j,l,i⟩:=ua x y z;obtain ⟨q,hq⟩:∃ q,q=J0 (ab x) (ab y):=⟨_,rfl⟩;rw[<-hq] at j l i
 have hql:(lim q).length<=1:=oE (by rw[hq];exact Kw _ (by unfold ab;omega)) H;refine go Tryz.func77 [(0,.agg #[.bool (aw x),qS A ((lim (ab x)).length) c]),(1,.agg #[.bool (aw y),qS D ((lim (ab y)).length) d])] rfl (aD (lA 2 37 ([.bool (aw x),qS A ((lim (ab x)).length) c]) a (fun C w2 h3 a=>lA 3 37 ([.bool (aw y),qS D ((lim (ab y)).length) d]) a (fun F w5 h6 a=>lA 4 39 da a (fun b7 w8 h9 a=>aR (lL a [.v (qP C 1),.o (qS A ((lim (ab x)).length) c) 2 1 1,.v (qP F 1),.o (qS D ((lim (ab y)).length) d) 1 1 1] (lC 14 a (uo (ab x) A c L (ab y) D d Q q hq oM oM _ _ a.g a.f.2.1 a.f.1) ?_)))))));rintro _ _ _ a ⟨K,M,rfl,S,W⟩;replace a:=a.aS W;refine lL a ac (aR (lL a [.v (qP C 1),.o (qS A ((lim (ab x)).length) c) 2 1 1,.c] (lC 19 a (lw (ab x) A c L q K M S oM oM i _ _ a.g a.f.r.1 a.f.1) ?_)));rintro _ _ _ a ⟨_,e,rfl,⟨O,J,rfl,zl,X⟩,-⟩;replace a:=a.aS X;refine lL a [.c,.v (qS O ((lim ((ab x)/q)).length) J),.v e,.c,.c] (aR (lL a [.v (qP F 1),.o (qS D ((lim (ab y)).length) d) 1 1 1,.c] (lC 26 a (lw (ab y) D d Q q K M S oM oM i _ _ a.g a.f.r.1 a.f.2.1) ?_)));rintro _ _ _ a ⟨_,b,rfl,⟨p,u,rfl,Z,zo⟩,-⟩;replace a:=a.aS zo;refine lL a [.c,.v (qS p ((lim ((ab y)/q)).length) u),.v b,.c,.c] (aR (lL a [.v (pB C),.o (.bool (aw x)) 2 0 1,.v (pB F),.o (.bool (aw y)) 1 0 1,.v (.bool ((aw x) != (aw y))),.c] (lC 35 a (rI ((aw x) != (aw y)) ((ab x)/q) O J zl _ _ a.g a.f.2.1) ?_)));rintro _ _ _ a ⟨I,B,rfl,zp,Y⟩;replace a:=a.aS Y;exact lL a [.c,.v (.agg #[.bool (aw (cF ((aw x) != (aw y)) ((ab x)/q))),qS I ((lim (ab (cF ((aw x) != (aw y)) ((ab x)/q)))).length) B,qS p ((lim ((ab y)/q)).length) u])] (lP 0 0 ([.bool (aw (cF ((aw x) != (aw y)) ((ab x)/q))),qS I ((lim (ab (cF ((aw x) != (aw y)) ((ab x)/q)))).length) B,qS p ((lim ((ab y)/q)).length) u]) a (fun _ a=>ae a [(0,0,3)] (.agg #[.bool (aw (cF ((aw x) != (aw y)) ((ab x)/q))),qS I ((lim (ab (cF ((aw x) != (aw y)) ((ab x)/q)))).length) B,qS p ((lim ((ab y)/q)).length) u]) (by unfold RQ;rw[j,l];exact ⟨_,_,_,_,rfl,zp,Z,a.f.1,a.f.2.1⟩)))
theorem uy (x y:Int)(d:y≠0)(h0 : -9223372036854775808<=x)(h1:x<9223372036854775808)(H : -4294967296<y)(i:y<4294967296)(w:World)(h:Hp)(g:G w h):CR 45 #[iV x,iV y] w h (fun v h1=>RQ h1 v (mkR x y)):=by
 have a:=sS g;have J:=tR h0 h1;have B:=qG H i;refine go Tryz.func45 [(0,iV x),(1,iV y)] rfl (aD (lA 4 39 da a (fun Q w2 i a=>aR (lL a ac (lC 6 a (rj x oM oM _ _ a.g) ?_)))));rintro _ O S a ⟨C,M,rfl,b,c⟩;replace a:=a.aS c;refine lL a ac (lC 8 a (rj y oM oM _ _ a.g) ?_);rintro _ _ _ a ⟨L,F,rfl,u,D⟩;replace a:=a.aS D;refine lC 9 a (DH x C M b oM y L F u oM d _ _ a.g a.f.2.1 a.f.1) ?_;rintro _ _ _ a ⟨e,l,o,j,rfl,I,K,p,z⟩;replace a:=a.aP p z;exact lP 0 0 (Dd (mkR x y) e l o j) a (fun _ a=>ae a [(0,0,3)] (rG (mkR x y) e l o j) (by skip;exact ⟨_,_,_,_,rfl,I,K,a.f.2.1,a.f.1⟩))
end Go.Proofs.YtpnchlalmgmkeaaGreatDoor
