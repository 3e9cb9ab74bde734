/- Laws of this claim, part 3. -/
import Derived.Test.YteipbelehcpooaaGreatDoorQl0
import Derived.Test.YteipbelehcpooaaGreatDoorQl1
set_option maxRecDepth 100000
set_option maxHeartbeats 4000000
namespace Go.Proofs.YteipbelehcpooaaGreatDoor
open Int renaming divExact_eq_ediv -> KO, dvd_refl -> KL, dvd_trans -> KI, eq_ofNat_of_zero_le -> Kh, lt_trichotomy -> KE, mul_ediv_cancel_left -> KD, mul_neg -> Ki, mul_neg_of_neg_of_pos -> KW, mul_pos -> KX, natAbs_add_le -> KU, natAbs_dvd -> KK, natAbs_mul -> KB, natAbs_natCast -> KC, natAbs_neg -> KV, natCast_dvd_natCast -> KJ, neg_mul -> Kj, neg_neg -> Kk, sign_eq_neg_one_of_neg -> Kl, sign_eq_one_of_pos -> Km
open List renaming drop_eq_nil_of_le -> yT, drop_zero -> yL, flatMap_cons -> yJ, length -> Kw, length_drop -> A5, length_set -> JJ, length_take -> A2, mem_cons -> hP, mem_cons_of_mem -> Kg, mem_cons_self -> Kf, mem_singleton -> vl, replicate -> y2, set_set -> Kc, take_length -> yN, take_of_length_le -> JF, take_set -> Kt, toArray -> Ky
open Nat renaming add_sub_cancel -> JM, add_zero -> yK, divExact_eq_div -> KP, div_eq_of_lt -> Bs, div_le_self -> Bb, eq_of_mul_eq_mul_left -> Kp, eq_zero_or_pos -> zT, gcd -> Kq, gcd_comm -> Kb, gcd_dvd_left -> KG, gcd_dvd_right -> KH, gcd_le_left -> Kx, gcd_le_right -> KT, gcd_mul_left -> Ks, gcd_pos_of_pos_right -> KF, gcd_zero_right -> KA, le_mul_of_pos_left -> Kv, le_of_eq -> Ke, le_of_lt -> Kz, le_total -> Kr, le_trans -> e6, lt_or_ge -> ep, min_eq_left -> Ga, min_eq_right -> JO, mod_eq_of_lt -> y4, mod_lt -> y5, mul_add -> D1, mul_assoc -> Ft, mul_comm -> Az, mul_div_cancel_left -> Ku, mul_one -> JN, mul_zero -> Gb, pow_add -> Jw, pow_le_pow_right -> Ju, pow_succ -> B2, pow_zero -> J9, sub_le -> Ko, two_pow_pos -> H1, zero_add -> yW, zero_le -> JU, zero_mod -> J4
open Rat renaming add -> KM, den_intCast -> KS, maybeNormalize -> KN, mul -> KQ, num_intCast -> KR
open Go.RowKit
open Go.RowKit Go.Shelf
theorem dI (A:Z9)(c:Nat)(l:List Nat)(m x:Nat)(a:l.length=m)(hd:Wd l)(hv:aE l=x)(b:l.length<=1099511627776)(d:l.length<=c)(w:World)(h:Hp)(g:G w h)(e:SlO 1 ar 0 h A l):CV 126 #[.slice A m c] w h (nv x):=by
 subst a hv;exact Ho A c l hd b d w h g e
theorem Hu (a b:Nat)(C:(wds a).length<=1000000000)(I:(wds b).length<=1000000000)(k:a<18446744073709551616)(j:b<18446744073709551616)(w:World)(h:Hp)(g:G w h):CV 120 #[nv a,nv b] w h (nv (a+b)):=by
 have e:=sS g;have D:=y4 k;have F:=y4 j;refine go Tryz.func120 [(0,nv a),(1,nv b)] rfl (aD (lA 2 25 (nc a) e (fun y w2 Q e=>lA 3 25 (nc b) e (fun x L M e=>lA 4 25 ([uV 0,eS]) e (fun O S K e=>ag (ab e [.v (qP y 1),.o (.string (hi a)) 2 1 1] (lV 14 qT ?_ (hr:=rb kR (iu (dR k))))))))));refine lL e [.c,.v (qP x 1),.o (.string (hi b)) 1 1 1] (lV 18 qT ?_ (hr:=rb kR (iu (dR j))));refine lL e [.v qT] (au (ab e [.v (pB y),.o (mV (a%18446744073709551616)) 2 0 1,.v (pB x),.o (mV (b%18446744073709551616)) 1 0 1] ?_));obtain ⟨i,za,B,z,u,p⟩:=eh (a%18446744073709551616) (b%18446744073709551616) 0 wM wM oM;refine lV 25 (.tuple #[mV i,mV za]) ?_ (hr:=d3 kR (p _));refine lL e [.c,.v (mV i),.v (mV za),.c,.c] (ag (ab e ae ?_));cases zb:((za:Int) == (0:Int))
 .
  have H:=ah zb;refine lB 29 zb (ai (cK (ab e aN (lR 34 23 2 ([mV i,mV za]) e (fun J _ _ e=>?_)))));replace e:=e.aS (SlO.of_flat (sz:=1) (f:=ar) (d:=0) (l:=[i,za]) (fun _=>rfl) e.f.1);exact ak 35 e (dI (sB J) 2 ([i,za]) 2 ((a+b)) (by first|rfl|assumption|(simp;done)|(simp;omega)|omega) (Dg.cons oM (Dg.one oM)) (by show i+18446744073709551616*(za+18446744073709551616*0)=a+b;omega) sM sM _ _ e.g e.f.1) (fun _ _ e=>lP 0 0 (nc (a+b)) e (fun _ e=>af e [(0,0,2)] (nv (a+b)) rfl))
 have H:=eq_of_beq zb;exact lB 29 zb (au (ab e [.c,.v (.agg #[mV i,eS])] (lP 0 0 ([mV i,eS]) e (fun _ e=>af e [(0,0,2)] (.agg #[mV i,eS]) (by rw[show i=a+b by omega];exact im oM)))))
theorem GI (a b:Nat)(hla:(wds a).length<=1000000000)(hlb:(wds b).length<=1000000000)(has:18446744073709551616<=a)(hb0:0<b)(hle:(wds b).length<=(wds a).length)(w:World)(h:Hp)(g:G w h):CV 120 #[nv a,nv b] w h (nv (a+b)):=by
 have e:=sS g;refine go Tryz.func120 [(0,nv a),(1,nv b)] rfl (aD (lA 2 25 (nc a) e (fun C w2 h3 e=>lA 3 25 (nc b) e (fun F w5 h6 e=>lA 4 25 ([uV 0,eS]) e (fun D w8 h9 e=>ag (ab e [.v (qP C 1),.o (.string (hi a)) 2 1 1] (lV 14 qF ?_ (hr:=rb kR (ja (fw has))))))))));refine lL e ae (lG 16 ?_);refine lG 17 (lG 18 (lL e [.v qF] (ai (cK (cQ ?_)))));obtain ⟨K,hK_⟩:∃ K,K=w8.heap.size:=⟨_,rfl⟩;have bb:D<K:=by rw[hK_];exact ft e 0
 have H:F<K:=by rw[hK_];exact ft e 1
 have I:C<K:=by rw[hK_];exact ft e 2
 refine Bd ⟨[],some (K,[])⟩ 0 mixed ?_;have b9:=e.g.size;replace e:=e.drew;have y:=Ke hK_;refine zO 0 36 [(2,0,2)] (nv a) rfl y e (fun p hp=>by obtain rfl:=vl.1 hp;exact I) (zO 2 38 [(1,0,2)] (nv b) rfl y e (fun p hp=>by obtain rfl:=vl.1 hp;exact H) (sF 1 37 (fu a oM oM _ _ e.g) rfl y ?_));rintro _ _ _ u12 y ⟨j,rfl,W,O,bq⟩;obtain ⟨_,e,-,-⟩:=e.take u12 W O;replace e:=e.to [⟨j,23,(wds a).flatMap ar⟩,⟨D,25,[uV 0,eS]⟩,⟨F,25,nc b⟩,⟨C,25,nc a⟩] [];refine sF 3 39 (fu b oM oM _ _ e.g) rfl y ?_;rintro _ _ _ u16 y ⟨u,rfl,S,L,bn⟩;obtain ⟨zn,e,-,-⟩:=e.take u16 S L;replace e:=e.to [⟨u,23,(wds b).flatMap ar⟩,⟨j,23,(wds a).flatMap ar⟩,⟨D,25,[uV 0,eS]⟩,⟨F,25,nc b⟩,⟨C,25,nc a⟩] [];refine zV 4 7 (qS (sB j) ((wds a).length) ((wds a).length)) (zV 5 8 (qS (sB u) ((wds b).length) ((wds b).length)) (tN (cQ (ab e [.c,.v (nV ((wds a).length)),.c,.v (nV ((wds b).length))] ?_))));have ⟨zk,bl⟩:=dF (p:=(((wds a).length:Nat):Int)<(((wds b).length:Nat):Int)) oM;refine lB 44 zk (ai (cK (ab e ae (ag (ab e [.c,.v (nV ((wds a).length)),.c] (be ?_))))));refine bU _ (CG.loop (fun μ_ Γ w_=>∃ (i:Nat)(l:List Nat)(x:Nat)(h_:Hp),μ_=(wds a).length-i/\Γ=[(4,pB D),(7,qS (sB j) ((wds a).length) ((wds a).length)),(8,qS (sB u) ((wds b).length) ((wds b).length)),(48,nV ((wds a).length)),(49,nV i),(9,mV x)]/\SS w h w_ h_ [⟨u,23,(wds b).flatMap ar⟩,⟨j,23,(l).flatMap ar⟩,⟨D,25,[uV 0,eS]⟩,⟨F,25,nc b⟩,⟨C,25,nc a⟩] [] []/\i<=(wds a).length/\l.length=(wds a).length/\Wd l/\x<=1/\aq 18446744073709551616 l+18446744073709551616^i*x=a+aq 18446744073709551616 ((wds b:List Nat).take i)) _ ⟨0,wds a,0,zn,rfl,rfl,e.to _ _,JU _,rfl,Wd.wds _,oM,(by have hx_:aq 18446744073709551616 (wds a)=a:=aI _;rw[hx_];simp[aq])⟩ ?_);rintro _ _ _ ⟨i,l,x,zj,b3,rfl,e,hi,U,M,hcy,inv⟩;have hlk:=M.get i;have hyk:=(Wd.wds b).get i;refine aD ?_;cases za:(decide ((i:Int)<(((wds a).length:Nat):Int)))
 .
  have zf:=oF za;refine lB 50 za (ag (dv (CG.exit ?_)))
  show CG _ _ _ _ _ _ _ _
  refine cQ (aD ?_);have J:=inv;rw[JF (show (wds b).length<=i by first|omega|(simp;done)|(simp;omega))] at J
  rw[show i=l.length by omega] at J
  have hE_:aq 18446744073709551616 (wds b)=b:=aI _;replace J:aq 18446744073709551616 l+18446744073709551616^l.length*x=(a+b):=by rw[J,hE_];first|done|omega
  refine lL e ae ?_;cases zb:((x:Int) != (0:Int))
  .
   have zg:=aJ zb;refine lB 75 zb (ai (cK (aD ?_)));obtain ⟨_,e,V,bw,b5⟩:=e.pub 1;replace e:=(e.to [⟨u,23,(wds b).flatMap ar⟩,⟨D,25,[uV 0,eS]⟩,⟨F,25,nc b⟩,⟨C,25,nc a⟩] []).aS (SlO.of_flat (sz:=1) (f:=ar) (d:=0) (b:=j) (o:=0) (l:=l) (fun _=>rfl) V);exact lL e ae (ak 81 e (dI (sB j) ((wds a).length) (l) ((wds a).length) ((a+b)) (by first|rfl|assumption|(simp;done)|(simp;omega)|omega) (M) (by rw[show x=0 by omega,Gb,yK] at J;exact J) sM sM _ _ e.g e.f.1) (fun _ _ e=>lP 1 0 (nc (a+b)) e (fun _ e=>af e [(1,0,2)] (nv (a+b)) rfl)))
  have zg:=aU zb;refine lB 75 zb (au (kQ (lL e aN (lR 78 23 1 ([mV x]) e (fun zo _ _ e=>HU 79 1 ((wds a).length) zo l ar 0 x 8 (uV 0) e e.f.1 oM oM (fun zp zq _ _ e bf=>?_))))));replace e:=e.to [⟨u,23,(wds b).flatMap ar⟩,⟨D,25,[uV 0,eS]⟩,⟨F,25,nc b⟩,⟨C,25,nc a⟩] [];exact lL e ae (a7 (lL e ae (ak 81 e (dI zp zq (l++[x]) ((wds a).length+1) ((a+b)) (by first|rfl|assumption|(simp;done)|(simp;omega)|omega) (Dg.append M (Dg.one oM)) (by show aq _ (l++[x])=_;rw[ei];show _+_*(x+_*0)=_;rw[Gb,yK];exact J) sM sM _ _ e.g e.f.1) (fun _ _ e=>lP 1 0 (nc (a+b)) e (fun _ e=>af e [(1,0,2)] (nv (a+b)) rfl)))))
 have zf:=oT za;refine lB 50 za (ag (bT (cK (cQ (kZ (ab e aN (a7 (lL e ae (ag (ab e [.c,.c,.v (nV ((wds b).length))] ?_))))))))));cases Y:(decide ((i:Int)<(((wds b).length:Nat):Int)))
 .
  have zi:=oF Y;refine lB 55 Y (ai (cK (kQ (lL e nK (lX 65 (sB j) ((wds a).length) ((wds a).length) 1 (i:Nat) i rfl ?_)))));refine lQ 66 1 l ar 1 0 i (mV ((l).getD i 0)) e oM (lL e aN ?_);obtain ⟨B,zd,b2,b0,bt,Q⟩:=eh ((l).getD i 0) 0 x wM wM oM;refine lV 69 (.tuple #[mV B,mV zd]) ?_ (hr:=d3 kR (Q _));refine lL e [.c,.v (mV B),.v (mV zd)] (lX 72 (sB j) ((wds a).length) ((wds a).length) 1 (i:Nat) i rfl ?_);refine lW 1 l ar 1 i B e oM (fun _ e=>?_);have zl:((l).set i B).length=(wds a).length:=by rw[JJ];exact U
  replace e:=e.to [⟨u,23,(wds b).flatMap ar⟩,⟨j,23,((l).set i B).flatMap ar⟩,⟨D,25,[uV 0,eS]⟩,⟨F,25,nc b⟩,⟨C,25,nc a⟩] [];refine lL e ae (lN (kQ (bM 73 ((i:Nat)+1) (i+1) ?_)));refine lL e ae (lD ?_);intro a_ Z;refine ⟨_,_,?_,⟨i+1,(l).set i B,zd,zj,rfl,rfl,e.to _ _,oM,zl,(M.set _ oM),oM,(gN oM inv (by first|omega|(have hy0:=cO (l:=(wds b:List Nat)) (k:=i) (by first|omega|(simp;done));omega)))⟩,Z.to _ kR⟩
  omega
 have zi:=oT Y;refine lB 55 Y (au (kQ (lL e aN (lX 58 (sB u) ((wds b).length) ((wds b).length) 1 (i:Nat) i rfl ?_))));refine lQ 59 0 (wds b) ar 1 0 i (mV ((wds b).getD i 0)) e oM (lL e ae (lN (kQ (lL e nK (lX 65 (sB j) ((wds a).length) ((wds a).length) 1 (i:Nat) i rfl ?_)))));refine lQ 66 1 l ar 1 0 i (mV ((l).getD i 0)) e oM (lL e aN ?_);obtain ⟨z,ze,bv,bm,b6,X⟩:=eh ((l).getD i 0) ((wds b).getD i 0) x wM wM oM;refine lV 69 (.tuple #[mV z,mV ze]) ?_ (hr:=d3 kR (X _));refine lL e [.c,.v (mV z),.v (mV ze)] (lX 72 (sB j) ((wds a).length) ((wds a).length) 1 (i:Nat) i rfl ?_);refine lW 1 l ar 1 i z e oM (fun _ e=>?_);have zm:((l).set i z).length=(wds a).length:=by rw[JJ];exact U
 replace e:=e.to [⟨u,23,(wds b).flatMap ar⟩,⟨j,23,((l).set i z).flatMap ar⟩,⟨D,25,[uV 0,eS]⟩,⟨F,25,nc b⟩,⟨C,25,nc a⟩] [];refine lL e ae (lN (kQ (bM 73 ((i:Nat)+1) (i+1) ?_)));refine lL e ae (lD ?_);intro a_ Z;refine ⟨_,_,?_,⟨i+1,(l).set i z,ze,zj,rfl,rfl,e.to _ _,oM,zm,(M.set _ oM),oM,(gN oM inv (by first|omega|(have hy0:=cO (l:=(wds b:List Nat)) (k:=i) (by first|omega|(simp;done));omega)))⟩,Z.to _ kR⟩
 omega
theorem DO (a b:Nat)(hla:(wds a).length<=1000000000)(hlb:(wds b).length<=1000000000)(ha0:0<a)(hbs:18446744073709551616<=b)(hlt:(wds a).length<(wds b).length)(w:World)(h:Hp)(g:G w h):CV 120 #[nv a,nv b] w h (nv (a+b)):=by
 have e:=sS g;refine go Tryz.func120 [(0,nv a),(1,nv b)] rfl (aD (lA 2 25 (nc a) e (fun D w2 h3 e=>lA 3 25 (nc b) e (fun C w5 h6 e=>lA 4 25 ([uV 0,eS]) e (fun F w8 h9 e=>?_)))));refine lN (CG.join (fun Γ w_=>∃  (h_:Hp),Γ=[(2,pB D),(3,pB C),(4,pB F)]/\SS w h w_ h_ [⟨F,25,[uV 0,eS]⟩,⟨C,25,nc b⟩,⟨D,25,nc a⟩] [] []) ?_ ?_)
 .
  refine ab e [.v (qP D 1),.o (.string (hi a)) 2 1 1] ?_;cases za:(uJ (hi a) (⟨#[]⟩))
  .
   have zg:=As za;refine lB 14 za (lL e ae (lG 16 ?_));refine lG 17 (lG 18 (lL e [.v qF] (ai (CG.skip ?_))));intro a_ H;exact ⟨_,⟨h9,rfl,e.to _ _⟩,H.to _ kR⟩
  have zg:=AD za;refine lB 14 za (lL e [.c,.v (qP C 1),.o (.string (hi b)) 1 1 1] (lV 18 qF ?_ (hr:=rb kR (ja (fw hbs)))));refine lL e [.v qF] (ai (CG.skip ?_));intro a_ H;exact ⟨_,⟨h9,rfl,e.to _ _⟩,H.to _ kR⟩
 rintro _ zp ⟨_,rfl,e⟩;refine cQ ?_;obtain ⟨L,hK_⟩:∃ L,L=zp.heap.size:=⟨_,rfl⟩;have bf:F<L:=by rw[hK_];exact ft e 0
 have I:C<L:=by rw[hK_];exact ft e 1
 have J:D<L:=by rw[hK_];exact ft e 2
 refine Bd ⟨[],some (L,[])⟩ 0 mixed ?_;have b9:=e.g.size;replace e:=e.drew;have z:=Ke hK_;refine zO 0 36 [(2,0,2)] (nv a) rfl z e (fun p hp=>by obtain rfl:=vl.1 hp;exact J) (zO 2 38 [(1,0,2)] (nv b) rfl z e (fun p hp=>by obtain rfl:=vl.1 hp;exact I) (sF 1 37 (fu a oM oM _ _ e.g) rfl z ?_));rintro _ _ _ u15 z ⟨u,rfl,Y,Q,bq⟩;obtain ⟨_,e,-,-⟩:=e.take u15 Y Q;replace e:=e.to [⟨u,23,(wds a).flatMap ar⟩,⟨F,25,[uV 0,eS]⟩,⟨C,25,nc b⟩,⟨D,25,nc a⟩] [];refine sF 3 39 (fu b oM oM _ _ e.g) rfl z ?_;rintro _ _ _ u19 z ⟨j,rfl,V,M,bn⟩;obtain ⟨zq,e,-,-⟩:=e.take u19 V M;replace e:=e.to [⟨j,23,(wds b).flatMap ar⟩,⟨u,23,(wds a).flatMap ar⟩,⟨F,25,[uV 0,eS]⟩,⟨C,25,nc b⟩,⟨D,25,nc a⟩] [];refine zV 4 7 (qS (sB u) ((wds a).length) ((wds a).length)) (zV 5 8 (qS (sB j) ((wds b).length) ((wds b).length)) (tN (cQ (ab e [.c,.v (nV ((wds a).length)),.c,.v (nV ((wds b).length))] ?_))));have ⟨zm,bb⟩:=dT (p:=(((wds a).length:Nat):Int)<(((wds b).length:Nat):Int)) oM;refine lB 44 zm (au (kQ (lL e nK (a7 (lL e ae (ag (ab e [.c,.v (nV ((wds b).length)),.c] (be ?_))))))));refine bU _ (CG.loop (fun μ_ Γ w_=>∃ (i:Nat)(l:List Nat)(x:Nat)(h_:Hp),μ_=(wds b).length-i/\Γ=[(4,pB F),(7,qS (sB j) ((wds b).length) ((wds b).length)),(8,qS (sB u) ((wds a).length) ((wds a).length)),(48,nV ((wds b).length)),(49,nV i),(9,mV x)]/\SS w h w_ h_ [⟨j,23,(l).flatMap ar⟩,⟨u,23,(wds a).flatMap ar⟩,⟨F,25,[uV 0,eS]⟩,⟨C,25,nc b⟩,⟨D,25,nc a⟩] [] []/\i<=(wds b).length/\l.length=(wds b).length/\Wd l/\x<=1/\aq 18446744073709551616 l+18446744073709551616^i*x=b+aq 18446744073709551616 ((wds a:List Nat).take i)) _ ⟨0,wds b,0,zq,rfl,rfl,e.to _ _,JU _,rfl,Wd.wds _,oM,(by have hx_:aq 18446744073709551616 (wds b)=b:=aI _;rw[hx_];simp[aq])⟩ ?_);rintro _ _ _ ⟨i,l,x,zl,b2,rfl,e,hi,W,O,hcy,inv⟩;have hlk:=O.get i;have hyk:=(Wd.wds a).get i;refine aD ?_;cases zb:(decide ((i:Int)<(((wds b).length:Nat):Int)))
 .
  have zi:=oF zb;refine lB 50 zb (ag (dv (CG.exit ?_)))
  show CG _ _ _ _ _ _ _ _
  refine cQ (aD ?_);have K:=inv;rw[JF (show (wds a).length<=i by first|omega|(simp;done)|(simp;omega))] at K
  rw[show i=l.length by omega] at K
  have hE_:aq 18446744073709551616 (wds a)=a:=aI _;replace K:aq 18446744073709551616 l+18446744073709551616^l.length*x=(a+b):=by rw[K,hE_];first|done|omega
  refine lL e ae ?_;cases Z:((x:Int) != (0:Int))
  .
   have zj:=aJ Z;refine lB 75 Z (ai (cK (aD ?_)));obtain ⟨_,e,U,b5,b3⟩:=e.pub 0;replace e:=(e.to [⟨u,23,(wds a).flatMap ar⟩,⟨F,25,[uV 0,eS]⟩,⟨C,25,nc b⟩,⟨D,25,nc a⟩] []).aS (SlO.of_flat (sz:=1) (f:=ar) (d:=0) (b:=j) (o:=0) (l:=l) (fun _=>rfl) U);exact lL e ae (ak 81 e (dI (sB j) ((wds b).length) (l) ((wds b).length) ((a+b)) (by first|rfl|assumption|(simp;done)|(simp;omega)|omega) (O) (by rw[show x=0 by omega,Gb,yK] at K;exact K) sM sM _ _ e.g e.f.1) (fun _ _ e=>lP 1 0 (nc (a+b)) e (fun _ e=>af e [(1,0,2)] (nv (a+b)) rfl)))
  have zj:=aU Z;refine lB 75 Z (au (kQ (lL e aN (lR 78 23 1 ([mV x]) e (fun zr _ _ e=>HU 79 0 ((wds b).length) zr l ar 0 x 8 (uV 0) e e.f.1 oM oM (fun zs zt _ _ e bl=>?_))))));replace e:=e.to [⟨u,23,(wds a).flatMap ar⟩,⟨F,25,[uV 0,eS]⟩,⟨C,25,nc b⟩,⟨D,25,nc a⟩] [];exact lL e ae (a7 (lL e ae (ak 81 e (dI zs zt (l++[x]) ((wds b).length+1) ((a+b)) (by first|rfl|assumption|(simp;done)|(simp;omega)|omega) (Dg.append O (Dg.one oM)) (by show aq _ (l++[x])=_;rw[ei];show _+_*(x+_*0)=_;rw[Gb,yK];exact K) sM sM _ _ e.g e.f.1) (fun _ _ e=>lP 1 0 (nc (a+b)) e (fun _ e=>af e [(1,0,2)] (nv (a+b)) rfl)))))
 have zi:=oT zb;refine lB 50 zb (ag (bT (cK (cQ (kZ (ab e aN (a7 (lL e ae (ag (ab e [.c,.c,.v (nV ((wds a).length))] ?_))))))))));cases zd:(decide ((i:Int)<(((wds a).length:Nat):Int)))
 .
  have zk:=oF zd;refine lB 55 zd (ai (cK (kQ (lL e nK (lX 65 (sB j) ((wds b).length) ((wds b).length) 1 (i:Nat) i rfl ?_)))));refine lQ 66 0 l ar 1 0 i (mV ((l).getD i 0)) e oM (lL e aN ?_);obtain ⟨B,ze,bt,b0,bw,S⟩:=eh ((l).getD i 0) 0 x wM wM oM;refine lV 69 (.tuple #[mV B,mV ze]) ?_ (hr:=d3 kR (S _));refine lL e [.c,.v (mV B),.v (mV ze)] (lX 72 (sB j) ((wds b).length) ((wds b).length) 1 (i:Nat) i rfl ?_);refine lW 0 l ar 1 i B e oM (fun _ e=>?_);have zn:((l).set i B).length=(wds b).length:=by rw[JJ];exact W
  replace e:=e.to [⟨j,23,((l).set i B).flatMap ar⟩,⟨u,23,(wds a).flatMap ar⟩,⟨F,25,[uV 0,eS]⟩,⟨C,25,nc b⟩,⟨D,25,nc a⟩] [];refine lL e ae (lN (kQ (bM 73 ((i:Nat)+1) (i+1) ?_)));refine lL e ae (lD ?_);intro a_ H;refine ⟨_,_,?_,⟨i+1,(l).set i B,ze,zl,rfl,rfl,e.to _ _,oM,zn,(O.set _ oM),oM,(gN oM inv (by first|omega|(have hy0:=cO (l:=(wds a:List Nat)) (k:=i) (by first|omega|(simp;done));omega)))⟩,H.to _ kR⟩
  omega
 have zk:=oT zd;refine lB 55 zd (au (kQ (lL e aN (lX 58 (sB u) ((wds a).length) ((wds a).length) 1 (i:Nat) i rfl ?_))));refine lQ 59 1 (wds a) ar 1 0 i (mV ((wds a).getD i 0)) e oM (lL e ae (lN (kQ (lL e nK (lX 65 (sB j) ((wds b).length) ((wds b).length) 1 (i:Nat) i rfl ?_)))));refine lQ 66 0 l ar 1 0 i (mV ((l).getD i 0)) e oM (lL e aN ?_);obtain ⟨y,zf,bm,b6,bv,X⟩:=eh ((l).getD i 0) ((wds a).getD i 0) x wM wM oM;refine lV 69 (.tuple #[mV y,mV zf]) ?_ (hr:=d3 kR (X _));refine lL e [.c,.v (mV y),.v (mV zf)] (lX 72 (sB j) ((wds b).length) ((wds b).length) 1 (i:Nat) i rfl ?_);refine lW 0 l ar 1 i y e oM (fun _ e=>?_);have zo:((l).set i y).length=(wds b).length:=by rw[JJ];exact W
 replace e:=e.to [⟨j,23,((l).set i y).flatMap ar⟩,⟨u,23,(wds a).flatMap ar⟩,⟨F,25,[uV 0,eS]⟩,⟨C,25,nc b⟩,⟨D,25,nc a⟩] [];refine lL e ae (lN (kQ (bM 73 ((i:Nat)+1) (i+1) ?_)));refine lL e ae (lD ?_);intro a_ H;refine ⟨_,_,?_,⟨i+1,(l).set i y,zf,zl,rfl,rfl,e.to _ _,oM,zo,(O.set _ oM),oM,(gN oM inv (by first|omega|(have hy0:=cO (l:=(wds a:List Nat)) (k:=i) (by first|omega|(simp;done));omega)))⟩,H.to _ kR⟩
 omega
theorem Fz (b:Nat)(hl:(wds b).length<=1000000000)(K:18446744073709551616<=b)(w:World)(h:Hp)(g:G w h):CV 120 #[nv 0,nv b] w h (nv (0+b)):=by
 have a:=sS g;have h2l:=dg K;refine go Tryz.func120 [(0,nv 0),(1,nv b)] rfl (aD (lA 2 25 (nc 0) a (fun B w2 h3 a=>lA 3 25 (nc b) a (fun z w5 h6 a=>lA 4 25 ([uV 0,eS]) a (fun F w8 h9 a=>ag (ab a [.v (qP B 1),.o (.string (hi 0)) 2 1 1] (lV 14 qT ?_ (hr:=rb kR (iu rfl)))))))));refine lL a [.c,.v (qP z 1),.o (.string (hi b)) 1 1 1] (lV 18 qF ?_ (hr:=rb kR (ja (fw K))));refine lL a [.v qF] (ai (cK (cQ ?_)));obtain ⟨H,hK_⟩:∃ H,H=w8.heap.size:=⟨_,rfl⟩;have W:F<H:=by rw[hK_];exact ft a 0
 have C:z<H:=by rw[hK_];exact ft a 1
 have D:B<H:=by rw[hK_];exact ft a 2
 refine Bd ⟨[],some (H,[])⟩ 0 mixed ?_;have bl:=a.g.size;replace a:=a.drew;have j:=Ke hK_;refine zO 0 36 [(2,0,2)] (nv 0) rfl j a (fun p Q=>by obtain rfl:=vl.1 Q;exact D) (zO 2 38 [(1,0,2)] (nv b) rfl j a (fun p Q=>by obtain rfl:=vl.1 Q;exact C) (sF 1 37 (j6 _ _ a.g) rfl j ?_));rintro _ _ _ U j rfl;replace a:=a.step U;refine sF 3 39 (fu b oM oM _ _ a.g) rfl j ?_;rintro _ _ _ u15 j ⟨e,rfl,M,J,bf⟩;obtain ⟨zj,a,-,-⟩:=a.take u15 M J;replace a:=a.to [⟨e,23,(wds b).flatMap ar⟩,⟨F,25,[uV 0,eS]⟩,⟨z,25,nc b⟩,⟨B,25,nc 0⟩] [];refine zV 4 7 (sZ) (zV 5 8 (qS (sB e) ((wds b).length) ((wds b).length)) (tN (cQ (ab a [.c,.v (iV 0),.c,.v (nV ((wds b).length))] ?_))));have ⟨zf,S⟩:=dT (p:=(0:Int)<(((wds b).length:Nat):Int)) oM;refine lB 44 zf (au (kQ (lL a nK (a7 (lL a ae (ag (ab a [.c,.v (nV ((wds b).length)),.c] (be ?_))))))));refine bU _ (CG.loop (fun μ_ Γ w_=>∃ (i:Nat)(l:List Nat)(x:Nat)(h_:Hp),μ_=(wds b).length-i/\Γ=[(4,pB F),(7,qS (sB e) ((wds b).length) ((wds b).length)),(8,sZ),(48,nV ((wds b).length)),(49,nV i),(9,mV x)]/\SS w h w_ h_ [⟨e,23,(l).flatMap ar⟩,⟨F,25,[uV 0,eS]⟩,⟨z,25,nc b⟩,⟨B,25,nc 0⟩] [] []/\i<=(wds b).length/\l.length=(wds b).length/\Wd l/\x<=1/\aq 18446744073709551616 l+18446744073709551616^i*x=b+aq 18446744073709551616 (([]:List Nat).take i)) _ ⟨0,wds b,0,zj,rfl,rfl,a.to _ _,JU _,rfl,Wd.wds _,oM,(by have X:aq 18446744073709551616 (wds b)=b:=aI _;rw[X];simp[aq])⟩ ?_);rintro _ _ _ ⟨i,l,x,zk,bb,rfl,a,hi,Z,O,hcy,inv⟩;have hlk:=O.get i;have hyk:=Wd.get (l:=[]) Dg.nil i;refine aD ?_;cases za:(decide ((i:Int)<(((wds b).length:Nat):Int)))
 .
  have zd:=oF za;refine lB 50 za (ag (dv (CG.exit ?_)))
  show CG _ _ _ _ _ _ _ _
  refine cQ (aD ?_);have y:=inv;rw[JF (show ([]).length<=i by first|omega|(simp;done)|(simp;omega))] at y
  rw[show i=l.length by omega] at y
  have hE_:([]:List Nat)=[]:=rfl;replace y:aq 18446744073709551616 l+18446744073709551616^l.length*x=(0+b):=by rw[y];simp[aq]
  refine lL a ae ?_;cases zb:((x:Int) != (0:Int))
  .
   have ze:=aJ zb;refine lB 75 zb (ai (cK (aD ?_)));obtain ⟨_,a,I,bn,bq⟩:=a.pub 0;replace a:=(a.to [⟨F,25,[uV 0,eS]⟩,⟨z,25,nc b⟩,⟨B,25,nc 0⟩] []).aS (SlO.of_flat (sz:=1) (f:=ar) (d:=0) (b:=e) (o:=0) (l:=l) (fun _=>rfl) I);exact lL a ae (ak 81 a (dI (sB e) ((wds b).length) (l) ((wds b).length) ((0+b)) (by first|rfl|assumption|(simp;done)|(simp;omega)|omega) (O) (by rw[show x=0 by omega,Gb,yK] at y;exact y) sM sM _ _ a.g a.f.1) (fun _ _ a=>lP 0 0 (nc (0+b)) a (fun _ a=>af a [(0,0,2)] (nv (0+b)) rfl)))
  have ze:=aU zb;refine lB 75 zb (au (kQ (lL a aN (lR 78 23 1 ([mV x]) a (fun zl _ _ a=>HU 79 0 ((wds b).length) zl l ar 0 x 8 (uV 0) a a.f.1 oM oM (fun zm zn _ _ a Y=>?_))))));replace a:=a.to [⟨F,25,[uV 0,eS]⟩,⟨z,25,nc b⟩,⟨B,25,nc 0⟩] [];exact lL a ae (a7 (lL a ae (ak 81 a (dI zm zn (l++[x]) ((wds b).length+1) ((0+b)) (by first|rfl|assumption|(simp;done)|(simp;omega)|omega) (Dg.append O (Dg.one oM)) (by show aq _ (l++[x])=_;rw[ei];show _+_*(x+_*0)=_;rw[Gb,yK];exact y) sM sM _ _ a.g a.f.1) (fun _ _ a=>lP 0 0 (nc (0+b)) a (fun _ a=>af a [(0,0,2)] (nv (0+b)) rfl)))))
 have zd:=oT za;refine lB 50 za (ag (bT (cK (cQ (kZ (ab a aN (a7 (lL a ae (ag (ab a [.c,.c,.v (iV 0)] ?_))))))))));have ⟨zg,V⟩:=dF (p:=(i:Int)<(0:Int)) oM;refine lB 55 zg (ai (cK (kQ (lL a nK (lX 65 (sB e) ((wds b).length) ((wds b).length) 1 (i:Nat) i rfl ?_)))));refine lQ 66 0 l ar 1 0 i (mV ((l).getD i 0)) a oM (lL a aN ?_);obtain ⟨u,zc,bt,bv,bm,L⟩:=eh ((l).getD i 0) 0 x wM wM oM;refine lV 69 (.tuple #[mV u,mV zc]) ?_ (hr:=d3 kR (L _));refine lL a [.c,.v (mV u),.v (mV zc)] (lX 72 (sB e) ((wds b).length) ((wds b).length) 1 (i:Nat) i rfl ?_);refine lW 0 l ar 1 i u a oM (fun _ a=>?_);have zi:((l).set i u).length=(wds b).length:=by rw[JJ];exact Z
 replace a:=a.to [⟨e,23,((l).set i u).flatMap ar⟩,⟨F,25,[uV 0,eS]⟩,⟨z,25,nc b⟩,⟨B,25,nc 0⟩] [];refine lL a ae (lN (kQ (bM 73 ((i:Nat)+1) (i+1) ?_)));refine lL a ae (lD ?_);intro a_ ka;refine ⟨_,_,?_,⟨i+1,(l).set i u,zc,zk,rfl,rfl,a.to _ _,oM,zi,(O.set _ oM),oM,(gN oM inv (by first|omega|(have hy0:=cO (l:=([]:List Nat)) (k:=i) (by first|omega|(simp;done));omega)))⟩,ka.to _ kR⟩
 omega
theorem E3 (a:Nat)(hl:(wds a).length<=1000000000)(L:18446744073709551616<=a)(w:World)(h:Hp)(g:G w h):CV 120 #[nv a,nv 0] w h (nv (a+0)):=by
 have e:=sS g;have h2l:=dg L;refine go Tryz.func120 [(0,nv a),(1,nv 0)] rfl (aD (lA 2 25 (nc a) e (fun B w2 h3 e=>lA 3 25 (nc 0) e (fun H w5 h6 e=>lA 4 25 ([uV 0,eS]) e (fun F w8 h9 e=>ag (ab e [.v (qP B 1),.o (.string (hi a)) 2 1 1] (lV 14 qF ?_ (hr:=rb kR (ja (fw L))))))))));refine lL e ae (lG 16 ?_);refine lG 17 (lG 18 (lL e [.v qF] (ai (cK (cQ ?_)))));obtain ⟨I,hK_⟩:∃ I,I=w8.heap.size:=⟨_,rfl⟩;have X:F<I:=by rw[hK_];exact ft e 0
 have C:H<I:=by rw[hK_];exact ft e 1
 have D:B<I:=by rw[hK_];exact ft e 2
 refine Bd ⟨[],some (I,[])⟩ 0 mixed ?_;have bl:=e.g.size;replace e:=e.drew;have u:=Ke hK_;refine zO 0 36 [(2,0,2)] (nv a) rfl u e (fun p S=>by obtain rfl:=vl.1 S;exact D) (zO 2 38 [(1,0,2)] (nv 0) rfl u e (fun p S=>by obtain rfl:=vl.1 S;exact C) (sF 1 37 (fu a oM oM _ _ e.g) rfl u ?_));rintro _ _ _ V u ⟨j,rfl,O,K,bf⟩;obtain ⟨_,e,-,-⟩:=e.take V O K;replace e:=e.to [⟨j,23,(wds a).flatMap ar⟩,⟨F,25,[uV 0,eS]⟩,⟨H,25,nc 0⟩,⟨B,25,nc a⟩] [];refine sF 3 39 (j6 _ _ e.g) rfl u ?_;rintro _ _ zj u16 u rfl;replace e:=e.step u16;refine zV 4 7 (qS (sB j) ((wds a).length) ((wds a).length)) (zV 5 8 (sZ) (tN (cQ (ab e [.c,.v (nV ((wds a).length)),.c,.v (iV 0)] ?_))));have ⟨zf,U⟩:=dF (p:=(((wds a).length:Nat):Int)<(0:Int)) oM;refine lB 44 zf (ai (cK (ab e ae (ag (ab e [.c,.v (nV ((wds a).length)),.c] (be ?_))))));refine bU _ (CG.loop (fun μ_ Γ w_=>∃ (i:Nat)(l:List Nat)(y:Nat)(h_:Hp),μ_=(wds a).length-i/\Γ=[(4,pB F),(7,qS (sB j) ((wds a).length) ((wds a).length)),(8,sZ),(48,nV ((wds a).length)),(49,nV i),(9,mV y)]/\SS w h w_ h_ [⟨j,23,(l).flatMap ar⟩,⟨F,25,[uV 0,eS]⟩,⟨H,25,nc 0⟩,⟨B,25,nc a⟩] [] []/\i<=(wds a).length/\l.length=(wds a).length/\Wd l/\y<=1/\aq 18446744073709551616 l+18446744073709551616^i*y=a+aq 18446744073709551616 (([]:List Nat).take i)) _ ⟨0,wds a,0,zj,rfl,rfl,e.to _ _,JU _,rfl,Wd.wds _,oM,(by have Y:aq 18446744073709551616 (wds a)=a:=aI _;rw[Y];simp[aq])⟩ ?_);rintro _ _ _ ⟨i,l,y,zk,bb,rfl,e,hi,hll,Q,hcy,inv⟩;have hlk:=Q.get i;have hyk:=Wd.get (l:=[]) Dg.nil i;refine aD ?_;cases za:(decide ((i:Int)<(((wds a).length:Nat):Int)))
 .
  have zd:=oF za;refine lB 50 za (ag (dv (CG.exit ?_)))
  show CG _ _ _ _ _ _ _ _
  refine cQ (aD ?_);have z:=inv;rw[JF (show ([]).length<=i by first|omega|(simp;done)|(simp;omega))] at z
  rw[show i=l.length by omega] at z
  have hE_:([]:List Nat)=[]:=rfl;replace z:aq 18446744073709551616 l+18446744073709551616^l.length*y=(a+0):=by rw[z];simp[aq]
  refine lL e ae ?_;cases zb:((y:Int) != (0:Int))
  .
   have ze:=aJ zb;refine lB 75 zb (ai (cK (aD ?_)));obtain ⟨_,e,J,bn,bq⟩:=e.pub 0;replace e:=(e.to [⟨F,25,[uV 0,eS]⟩,⟨H,25,nc 0⟩,⟨B,25,nc a⟩] []).aS (SlO.of_flat (sz:=1) (f:=ar) (d:=0) (b:=j) (o:=0) (l:=l) (fun _=>rfl) J);exact lL e ae (ak 81 e (dI (sB j) ((wds a).length) (l) ((wds a).length) ((a+0)) (by first|rfl|assumption|(simp;done)|(simp;omega)|omega) (Q) (by rw[show y=0 by omega,Gb,yK] at z;exact z) sM sM _ _ e.g e.f.1) (fun _ _ e=>lP 0 0 (nc (a+0)) e (fun _ e=>af e [(0,0,2)] (nv (a+0)) rfl)))
  have ze:=aU zb;refine lB 75 zb (au (kQ (lL e aN (lR 78 23 1 ([mV y]) e (fun zl _ _ e=>HU 79 0 ((wds a).length) zl l ar 0 y 8 (uV 0) e e.f.1 oM oM (fun zm zn _ _ e Z=>?_))))));replace e:=e.to [⟨F,25,[uV 0,eS]⟩,⟨H,25,nc 0⟩,⟨B,25,nc a⟩] [];exact lL e ae (a7 (lL e ae (ak 81 e (dI zm zn (l++[y]) ((wds a).length+1) ((a+0)) (by first|rfl|assumption|(simp;done)|(simp;omega)|omega) (Dg.append Q (Dg.one oM)) (by show aq _ (l++[y])=_;rw[ei];show _+_*(y+_*0)=_;rw[Gb,yK];exact z) sM sM _ _ e.g e.f.1) (fun _ _ e=>lP 0 0 (nc (a+0)) e (fun _ e=>af e [(0,0,2)] (nv (a+0)) rfl)))))
 have zd:=oT za;refine lB 50 za (ag (bT (cK (cQ (kZ (ab e aN (a7 (lL e ae (ag (ab e [.c,.c,.v (iV 0)] ?_))))))))));have ⟨zg,W⟩:=dF (p:=(i:Int)<(0:Int)) oM;refine lB 55 zg (ai (cK (kQ (lL e nK (lX 65 (sB j) ((wds a).length) ((wds a).length) 1 (i:Nat) i rfl ?_)))));refine lQ 66 0 l ar 1 0 i (mV ((l).getD i 0)) e oM (lL e aN ?_);obtain ⟨x,zc,bt,bv,bm,M⟩:=eh ((l).getD i 0) 0 y wM wM oM;refine lV 69 (.tuple #[mV x,mV zc]) ?_ (hr:=d3 kR (M _));refine lL e [.c,.v (mV x),.v (mV zc)] (lX 72 (sB j) ((wds a).length) ((wds a).length) 1 (i:Nat) i rfl ?_);refine lW 0 l ar 1 i x e oM (fun _ e=>?_);have zi:((l).set i x).length=(wds a).length:=by rw[JJ];exact hll
 replace e:=e.to [⟨j,23,((l).set i x).flatMap ar⟩,⟨F,25,[uV 0,eS]⟩,⟨H,25,nc 0⟩,⟨B,25,nc a⟩] [];refine lL e ae (lN (kQ (bM 73 ((i:Nat)+1) (i+1) ?_)));refine lL e ae (lD ?_);intro a_ ka;refine ⟨_,_,?_,⟨i+1,(l).set i x,zc,zk,rfl,rfl,e.to _ _,oM,zi,(Q.set _ oM),oM,(gN oM inv (by first|omega|(have hy0:=cO (l:=([]:List Nat)) (k:=i) (by first|omega|(simp;done));omega)))⟩,ka.to _ kR⟩
 omega
theorem HP (a b:Nat)(d:(wds a).length<=1000000000)(c:(wds b).length<=1000000000)(w:World)(h:Hp)(g:G w h):CV 120 #[nv a,nv b] w h (nv (a+b)):=by
 rcases ep a 18446744073709551616 with h1|h1
 ·rcases ep b 18446744073709551616 with h2|h2
  ·exact Hu a b d c h1 h2 w h g
  ·rcases zT a with h3|h3
   ·subst h3;exact Fz b c h2 w h g
   ·exact DO a b d c h3 h2 (by have:=dg h2;have:=(ej (n:=a)).2 h1;omega) w h g
 ·rcases zT b with h3|h3
  ·subst h3;exact E3 a d h1 w h g
  ·rcases ep (wds a).length (wds b).length with h4|h4
   ·exact DO a b d c oM (by have:=dg h1;rcases ep b 18446744073709551616 with h5|h5;(have:=(ej (n:=b)).2 h5;omega);exact h5) h4 w h g
   ·exact GI a b d c h1 h3 h4 w h g
theorem ph {l:List Nat}{a b c:Nat}(d:Wd l)(inv:aq 18446744073709551616 l+b=a+18446744073709551616^l.length*c)(e:b<=a)(f:c<=1):aE l=a-b:=by
 have h1:=cC d
 have:c=0:=by
  rcases zT c with h|h
  ·exact h
  ·have:c=1:=by omega
   subst this;rw[JN] at inv
   omega
 subst this;rw[Gb,yK] at inv
 show aq _ l=_
 omega
theorem Ce {a b q r:Nat}(h:a=b*q+r)(hr:r<b):q=a/b/\r=a%b:=by
 subst h;rw[Nat.mul_add_div oM,Bs hr,Nat.mul_add_mod,y4 hr];simp
theorem gl (n:Nat)(d:(wds n).length<=1000000000)(w:World)(h:Hp)(g:G w h):CR 110 #[nv n] w h (fun v h1=>∃ A c,v=.slice A (wds n).length c/\(wds n).length<=c/\SlO 1 ar 0 h1 A (wds n)):=by
 rcases zT n with h0|h0
 ·subst h0
  refine (j6 w h g).mono ?_;rintro _ w' ⟨_,h',rfl,u,rfl⟩;exact ⟨_,h',rfl,u,none,0,rfl,nR _,SlO.nil⟩
 ·refine (fu n h0 d w h g).mono ?_
  rintro _ w' ⟨_,h',rfl,u,b,rfl,_,_,a⟩;exact ⟨_,h',rfl,u,_,_,rfl,nR _,a⟩
theorem Dz (a b:Nat)(f:a<b)(d:(wds a).length<=1000000000)(e:(wds b).length<=1000000000)(w:World)(h:Hp)(g:G w h):CV 121 #[nv a,nv b] w h (.tuple #[nv 0,.bool false]):=by
 have c:=sS g;have j:=dW f;refine go Tryz.func121 [(0,nv a),(1,nv b)] rfl (aD (lA 2 25 (nc a) c (fun x w2 B c=>lA 3 25 (nc b) c (fun l u y c=>lA 4 25 ([uV 0,eS]) c (fun z C k c=>lL c ae (ag (ab c [.o (nv a) 2 0 2,.o (nv b) 1 0 2] (ak 13 c (mN a b d e _ _ c.g) (fun _ _ c=>?_)))))))));have ⟨za,i⟩:=dT (p:=(cA a b:Int)<(0:Int)) oM;exact lB 14 za (au (ab c [.v (.agg #[uV 0,eS])] (lP 0 0 ([uV 0,eS]) c (fun _ c=>lL c ae (af c [(0,0,2)] (.tuple #[.agg #[uV 0,eS],qF]) rfl)))))
theorem GM (a b:Nat)(e:(wds a).length<=1000000000)(f:(wds b).length<=1000000000)(i:b<=a)(d:a<18446744073709551616)(w:World)(h:Hp)(g:G w h):CV 121 #[nv a,nv b] w h (.tuple #[nv (a-b),.bool true]):=by
 have c:=sS g;have u:=gB i;refine go Tryz.func121 [(0,nv a),(1,nv b)] rfl (aD (lA 2 25 (nc a) c (fun k w2 C c=>lA 3 25 (nc b) c (fun l y z c=>lA 4 25 ([uV 0,eS]) c (fun B D x c=>lL c ae (ag (ab c [.o (nv a) 2 0 2,.o (nv b) 1 0 2] (ak 13 c (mN a b e f _ _ c.g) (fun _ _ c=>?_)))))))));have ⟨za,j⟩:=dF (p:=(cA a b:Int)<(0:Int)) oM;refine lB 14 za (ai (cK (cQ (ab c [.v (qP k 1),.o (.string (hi a)) 2 1 1] (lV 18 qT ?_ (hr:=rb kR (iu (dR d))))))));refine au (ab c [.v (pB k),.o (mV (a%18446744073709551616)) 2 0 1,.v (pB l),.o (mV (b%18446744073709551616)) 1 0 1] (lV 23 (mV ((a%18446744073709551616)-(b%18446744073709551616))) ?_ (hr:=rU ((((a%18446744073709551616:Nat):Int)-((b%18446744073709551616:Nat):Int))) kR (gM (a%18446744073709551616) (b%18446744073709551616) oM oM))));exact lL c [.v (.agg #[mV ((a%18446744073709551616)-(b%18446744073709551616)),eS])] (lP 0 0 ([mV ((a%18446744073709551616)-(b%18446744073709551616)),eS]) c (fun _ c=>lL c ae (af c [(0,0,2)] (.tuple #[.agg #[mV ((a%18446744073709551616)-(b%18446744073709551616)),eS],qT]) (by rw[y4 d,y4 (show b<18446744073709551616 by omega),im oM]))))
theorem GG (a b:Nat)(hla:(wds a).length<=1000000000)(hlb:(wds b).length<=1000000000)(V:b<=a)(has:18446744073709551616<=a)(hb0:0<b)(w:World)(h:Hp)(g:G w h):CV 121 #[nv a,nv b] w h (.tuple #[nv (a-b),.bool true]):=by
 have e:=sS g;have hcl:=gB V;have hlm:=dh V;refine go Tryz.func121 [(0,nv a),(1,nv b)] rfl (aD (lA 2 25 (nc a) e (fun B w2 h3 e=>lA 3 25 (nc b) e (fun H w5 h6 e=>lA 4 25 ([uV 0,eS]) e (fun C w8 h9 e=>lL e ae (ag (ab e [.o (nv a) 2 0 2,.o (nv b) 1 0 2] (ak 13 e (mN a b hla hlb _ _ e.g) (fun zl _ e=>?_)))))))));have ⟨zi,bf⟩:=dF (p:=(cA a b:Int)<(0:Int)) oM;refine lB 14 zi (ai (cK (cQ (ab e [.v (qP B 1),.o (.string (hi a)) 2 1 1] (lV 18 qF ?_ (hr:=rb kR (ja (fw has))))))));refine ai (cK (cQ ?_));obtain ⟨I,hK_⟩:∃ I,I=zl.heap.size:=⟨_,rfl⟩;have bb:C<I:=by rw[hK_];exact ft e 0
 have D:H<I:=by rw[hK_];exact ft e 1
 have F:B<I:=by rw[hK_];exact ft e 2
 refine Bd ⟨[],some (I,[])⟩ 0 mixed ?_;have b6:=e.g.size;replace e:=e.drew;have y:=Ke hK_;refine zO 0 25 [(2,0,2)] (nv a) rfl y e (fun p hp=>by obtain rfl:=vl.1 hp;exact F) (zO 2 27 [(1,0,2)] (nv b) rfl y e (fun p hp=>by obtain rfl:=vl.1 hp;exact D) (sF 1 26 (fu a oM oM _ _ e.g) rfl y ?_));rintro _ _ _ u15 y ⟨j,rfl,W,M,bm⟩;obtain ⟨_,e,-,-⟩:=e.take u15 W M;replace e:=e.to [⟨j,23,(wds a).flatMap ar⟩,⟨C,25,[uV 0,eS]⟩,⟨H,25,nc b⟩,⟨B,25,nc a⟩] [];refine sF 3 28 (fu b oM oM _ _ e.g) rfl y ?_;rintro _ _ _ u19 y ⟨u,rfl,S,K,bl⟩;obtain ⟨zm,e,-,-⟩:=e.take u19 S K;replace e:=e.to [⟨u,23,(wds b).flatMap ar⟩,⟨j,23,(wds a).flatMap ar⟩,⟨C,25,[uV 0,eS]⟩,⟨H,25,nc b⟩,⟨B,25,nc a⟩] [];refine zV 4 6 (qS (sB j) ((wds a).length) ((wds a).length)) (zV 5 7 (qS (sB u) ((wds b).length) ((wds b).length)) (uy (lL e ae (ag (ab e [.c,.v (nV ((wds a).length)),.c] (be ?_))))));refine bU _ (CG.loop (fun μ_ Γ w_=>∃ (i:Nat)(l:List Nat)(J:Nat)(h_:Hp),μ_=(wds a).length-i/\Γ=[(4,pB C),(5,qF),(6,qS (sB j) ((wds a).length) ((wds a).length)),(7,qS (sB u) ((wds b).length) ((wds b).length)),(30,nV ((wds a).length)),(31,nV i),(8,mV J)]/\SS w h w_ h_ [⟨u,23,(wds b).flatMap ar⟩,⟨j,23,(l).flatMap ar⟩,⟨C,25,[uV 0,eS]⟩,⟨H,25,nc b⟩,⟨B,25,nc a⟩] [] []/\i<=(wds a).length/\l.length=(wds a).length/\Wd l/\J<=1/\aq 18446744073709551616 l+aq 18446744073709551616 ((wds b:List Nat).take i)=a+18446744073709551616^i*J) _ ⟨0,wds a,0,zm,rfl,rfl,e.to _ _,JU _,rfl,Wd.wds _,oM,(by have hx_:aq 18446744073709551616 (wds a)=a:=aI _;rw[hx_];simp[aq])⟩ ?_);rintro _ _ _ ⟨i,l,J,zg,bq,rfl,e,hi,U,L,hbo,inv⟩;have hlk:=L.get i;have hyk:=(Wd.wds b).get i;refine aD ?_;cases za:(decide ((i:Int)<(((wds a).length:Nat):Int)))
 .
  have ze:=oF za;refine lB 32 za (ag (dv (CG.exit ?_)))
  show CG _ _ _ _ _ _ _ _
  refine aD ?_;rw[JF (show (wds b).length<=i by first|omega|(simp;done)|(simp;omega)),show i=l.length by omega] at inv
  have hE:aE l=a-b:=ph L (by have hb_:aq 18446744073709551616 (wds b)=b:=aI b;rw[<-hb_];exact inv) oM hbo;obtain ⟨_,e,X,b3,b0⟩:=e.pub 1;replace e:=(e.to [⟨u,23,(wds b).flatMap ar⟩,⟨C,25,[uV 0,eS]⟩,⟨H,25,nc b⟩,⟨B,25,nc a⟩] []).aS (SlO.of_flat (sz:=1) (f:=ar) (d:=0) (b:=j) (o:=0) (l:=l) (fun _=>rfl) X);exact lL e ae (ak 57 e (dI (sB j) ((wds a).length) (l) ((wds a).length) ((a-b)) (by first|rfl|assumption|(simp;done)|(simp;omega)|omega) (L) (hE) sM sM _ _ e.g e.f.1) (fun _ _ e=>lP 1 0 (nc (a-b)) e (fun _ e=>lL e ae (af e [(1,0,2)] (.tuple #[nv (a-b),qT]) rfl))))
 have ze:=oT za;refine lB 32 za (ag (bT (cK (cQ (kZ (ab e aN (a7 (lL e ae (ag (ab e [.c,.c,.v (nV ((wds b).length))] ?_))))))))));cases zb:(decide ((i:Int)<(((wds b).length:Nat):Int)))
 .
  have zf:=oF zb;refine lB 37 zb (ai (cK (kQ (lL e nK (lX 47 (sB j) ((wds a).length) ((wds a).length) 1 (i:Nat) i rfl ?_)))));refine lQ 48 1 l ar 1 0 i (mV ((l).getD i 0)) e oM (lL e aN ?_);obtain ⟨z,zc,b5,b2,bw,Q⟩:=jx ((l).getD i 0) 0 J wM wM oM;refine lV 51 (.tuple #[mV z,mV zc]) ?_ (hr:=d3 kR (Q _));refine lL e [.c,.v (mV z),.v (mV zc)] (lX 54 (sB j) ((wds a).length) ((wds a).length) 1 (i:Nat) i rfl ?_);refine lW 1 l ar 1 i z e oM (fun _ e=>?_);have zj:((l).set i z).length=(wds a).length:=by rw[JJ];exact U
  replace e:=e.to [⟨u,23,(wds b).flatMap ar⟩,⟨j,23,((l).set i z).flatMap ar⟩,⟨C,25,[uV 0,eS]⟩,⟨H,25,nc b⟩,⟨B,25,nc a⟩] [];refine lL e ae (lN (kQ (bM 55 ((i:Nat)+1) (i+1) ?_)));refine lL e ae (lD ?_);intro a_ Y;refine ⟨_,_,?_,⟨i+1,(l).set i z,zc,zg,rfl,rfl,e.to _ _,oM,zj,(L.set _ oM),oM,(iN oM inv (by first|omega|(have Z:=cO (l:=(wds b:List Nat)) (k:=i) (by first|omega|(simp;done));omega)))⟩,Y.to _ kR⟩
  omega
 have zf:=oT zb;refine lB 37 zb (au (kQ (lL e aN (lX 40 (sB u) ((wds b).length) ((wds b).length) 1 (i:Nat) i rfl ?_))));refine lQ 41 0 (wds b) ar 1 0 i (mV ((wds b).getD i 0)) e oM (lL e ae (lN (kQ (lL e nK (lX 47 (sB j) ((wds a).length) ((wds a).length) 1 (i:Nat) i rfl ?_)))));refine lQ 48 1 l ar 1 0 i (mV ((l).getD i 0)) e oM (lL e aN ?_);obtain ⟨x,zd,bn,bt,bv,O⟩:=jx ((l).getD i 0) ((wds b).getD i 0) J wM wM oM;refine lV 51 (.tuple #[mV x,mV zd]) ?_ (hr:=d3 kR (O _));refine lL e [.c,.v (mV x),.v (mV zd)] (lX 54 (sB j) ((wds a).length) ((wds a).length) 1 (i:Nat) i rfl ?_);refine lW 1 l ar 1 i x e oM (fun _ e=>?_);have zk:((l).set i x).length=(wds a).length:=by rw[JJ];exact U
 replace e:=e.to [⟨u,23,(wds b).flatMap ar⟩,⟨j,23,((l).set i x).flatMap ar⟩,⟨C,25,[uV 0,eS]⟩,⟨H,25,nc b⟩,⟨B,25,nc a⟩] [];refine lL e ae (lN (kQ (bM 55 ((i:Nat)+1) (i+1) ?_)));refine lL e ae (lD ?_);intro a_ Y;refine ⟨_,_,?_,⟨i+1,(l).set i x,zd,zg,rfl,rfl,e.to _ _,oM,zk,(L.set _ oM),oM,(iN oM inv (by first|omega|(have Z:=cO (l:=(wds b:List Nat)) (k:=i) (by first|omega|(simp;done));omega)))⟩,Y.to _ kR⟩
 omega
theorem GJ (a:Nat)(Q:(wds a).length<=1000000000)(U:18446744073709551616<=a)(w:World)(h:Hp)(g:G w h):CV 121 #[nv a,nv 0] w h (.tuple #[nv a,.bool true]):=by
 have e:=sS g;have hcl:=gB (show 0<=a by omega);refine go Tryz.func121 [(0,nv a),(1,nv 0)] rfl (aD (lA 2 25 (nc a) e (fun B w2 h3 e=>lA 3 25 (nc 0) e (fun H w5 h6 e=>lA 4 25 ([uV 0,eS]) e (fun D w8 h9 e=>lL e ae (ag (ab e [.o (nv a) 2 0 2,.o (nv 0) 1 0 2] (ak 13 e (mN a 0 Q (by simp[rC]) _ _ e.g) (fun zg _ e=>?_)))))))));have ⟨zd,bb⟩:=dF (p:=(cA a 0:Int)<(0:Int)) oM;refine lB 14 zd (ai (cK (cQ (ab e [.v (qP B 1),.o (.string (hi a)) 2 1 1] (lV 18 qF ?_ (hr:=rb kR (ja (fw U))))))));refine ai (cK (cQ ?_));obtain ⟨C,hK_⟩:∃ C,C=zg.heap.size:=⟨_,rfl⟩;have V:D<C:=by rw[hK_];exact ft e 0
 have y:H<C:=by rw[hK_];exact ft e 1
 have z:B<C:=by rw[hK_];exact ft e 2
 refine Bd ⟨[],some (C,[])⟩ 0 mixed ?_;have bm:=e.g.size;replace e:=e.drew;have x:=Ke hK_;refine zO 0 25 [(2,0,2)] (nv a) rfl x e (fun p O=>by obtain rfl:=vl.1 O;exact z) (zO 2 27 [(1,0,2)] (nv 0) rfl x e (fun p O=>by obtain rfl:=vl.1 O;exact y) (sF 1 26 (fu a oM oM _ _ e.g) rfl x ?_));rintro _ _ _ Z x ⟨j,rfl,K,F,bl⟩;obtain ⟨_,e,-,-⟩:=e.take Z K F;replace e:=e.to [⟨j,23,(wds a).flatMap ar⟩,⟨D,25,[uV 0,eS]⟩,⟨H,25,nc 0⟩,⟨B,25,nc a⟩] [];refine sF 3 28 (j6 _ _ e.g) rfl x ?_;rintro _ _ zi u19 x rfl;replace e:=e.step u19;refine zV 4 6 (qS (sB j) ((wds a).length) ((wds a).length)) (zV 5 7 (sZ) (uy (lL e ae (ag (ab e [.c,.v (nV ((wds a).length)),.c] (be ?_))))));refine bU _ (CG.loop (fun Y Γ w_=>∃ (i:Nat)(l:List Nat)(I:Nat)(h_:Hp),Y=(wds a).length-i/\Γ=[(4,pB D),(5,qF),(6,qS (sB j) ((wds a).length) ((wds a).length)),(7,sZ),(30,nV ((wds a).length)),(31,nV i),(8,mV I)]/\SS w h w_ h_ [⟨j,23,(l).flatMap ar⟩,⟨D,25,[uV 0,eS]⟩,⟨H,25,nc 0⟩,⟨B,25,nc a⟩] [] []/\i<=(wds a).length/\l.length=(wds a).length/\Wd l/\I<=1/\aq 18446744073709551616 l+aq 18446744073709551616 (([]:List Nat).take i)=a+18446744073709551616^i*I) _ ⟨0,wds a,0,zi,rfl,rfl,e.to _ _,JU _,rfl,Wd.wds _,oM,(by have W:aq 18446744073709551616 (wds a)=a:=aI _;rw[W];simp[aq])⟩ ?_);rintro _ _ _ ⟨i,l,I,zj,bf,rfl,e,hi,X,M,hbo,inv⟩;have hlk:=M.get i;have hyk:=Wd.get (l:=[]) Dg.nil i;refine aD ?_;cases za:(decide ((i:Int)<(((wds a).length:Nat):Int)))
 .
  have zc:=oF za;refine lB 32 za (ag (dv (CG.exit ?_)))
  show CG _ _ _ _ _ _ _ _
  refine aD ?_;rw[List.take_nil,show i=l.length by omega] at inv
  have hE:aE l=a:=ph (b:=0) M inv oM hbo;obtain ⟨_,e,J,bw,bt⟩:=e.pub 0;replace e:=(e.to [⟨D,25,[uV 0,eS]⟩,⟨H,25,nc 0⟩,⟨B,25,nc a⟩] []).aS (SlO.of_flat (sz:=1) (f:=ar) (d:=0) (b:=j) (o:=0) (l:=l) (fun _=>rfl) J);exact lL e ae (ak 57 e (dI (sB j) ((wds a).length) (l) ((wds a).length) (a) (by first|rfl|assumption|(simp;done)|(simp;omega)|omega) (M) (hE) sM sM _ _ e.g e.f.1) (fun _ _ e=>lP 0 0 (nc a) e (fun _ e=>lL e ae (af e [(0,0,2)] (.tuple #[nv a,qT]) rfl))))
 have zc:=oT za;refine lB 32 za (ag (bT (cK (cQ (kZ (ab e aN (a7 (lL e ae (ag (ab e [.c,.c,.v (iV 0)] ?_))))))))));have ⟨ze,S⟩:=dF (p:=(i:Int)<(0:Int)) oM;refine lB 37 ze (ai (cK (kQ (lL e nK (lX 47 (sB j) ((wds a).length) ((wds a).length) 1 (i:Nat) i rfl ?_)))));refine lQ 48 0 l ar 1 0 i (mV ((l).getD i 0)) e oM (lL e aN ?_);obtain ⟨u,zb,bq,bn,bv,L⟩:=jx ((l).getD i 0) 0 I wM wM oM;refine lV 51 (.tuple #[mV u,mV zb]) ?_ (hr:=d3 kR (L _));refine lL e [.c,.v (mV u),.v (mV zb)] (lX 54 (sB j) ((wds a).length) ((wds a).length) 1 (i:Nat) i rfl ?_);refine lW 0 l ar 1 i u e oM (fun _ e=>?_);have zf:((l).set i u).length=(wds a).length:=by rw[JJ];exact X
 replace e:=e.to [⟨j,23,((l).set i u).flatMap ar⟩,⟨D,25,[uV 0,eS]⟩,⟨H,25,nc 0⟩,⟨B,25,nc a⟩] [];refine lL e ae (lN (kQ (bM 55 ((i:Nat)+1) (i+1) ?_)));refine lL e ae (lD ?_);intro a_ ka;refine ⟨_,_,?_,⟨i+1,(l).set i u,zb,zj,rfl,rfl,e.to _ _,oM,zf,(M.set _ oM),oM,(iN oM inv (by first|omega|(have hy0:=cO (l:=([]:List Nat)) (k:=i) (by first|omega|(simp;done));omega)))⟩,ka.to _ kR⟩
 omega
theorem BD (a b:Nat)(e:b<=a)(c:(wds a).length<=1000000000)(d:(wds b).length<=1000000000)(w:World)(h:Hp)(g:G w h):CV 121 #[nv a,nv b] w h (.tuple #[nv (a-b),.bool true]):=by
 rcases ep a 18446744073709551616 with h1|h1
 ·exact GM a b c d e h1 w h g
 ·rcases zT b with h3|h3
  ·subst h3;exact GJ a c h1 w h g
  ·exact GG a b c d e h1 h3 w h g
theorem Hl (a b:Nat)(H:(wds a).length<=1000000000)(J:(wds b).length<=1000000000)(k:a<18446744073709551616)(j:b<18446744073709551616)(w:World)(h:Hp)(g:G w h):CV 80 #[nv a,nv b] w h (nv (a*b)):=by
 have e:=sS g;have x:=y4 k;have y:=y4 j;refine go Tryz.func80 [(0,nv a),(1,nv b)] rfl (aD (lA 2 25 (nc a) e (fun D w2 S e=>lA 3 25 (nc b) e (fun C M O e=>lA 4 25 ([uV 0,eS]) e (fun Q U L e=>ag (ab e [.v (qP D 1),.o (.string (hi a)) 2 1 1] (lV 9 qT ?_ (hr:=rb kR (iu (dR k))))))))));refine lL e [.c,.v (qP C 1),.o (.string (hi b)) 1 1 1] (lV 13 qT ?_ (hr:=rb kR (iu (dR j))));refine lL e [.v qT] (au (ab e [.v (pB D),.o (mV (a%18446744073709551616)) 2 0 1,.v (pB C),.o (mV (b%18446744073709551616)) 1 0 1] (lC 20 e (mi (a%18446744073709551616) (b%18446744073709551616) wM wM _ _ e.g) ?_)));rintro _ _ _ e ⟨i,za,rfl,p,F,B,z⟩;have u:=iE (a:=(a%18446744073709551616)) (b:=(b%18446744073709551616)) wM wM;refine lL e [.c,.v (mV i),.v (mV za),.c,.c] (ag (aD ?_));rw[x,y] at p
 refine lL e ae ?_;cases zb:((i:Int) == (0:Int))
 .
  have I:=ah zb;refine lB 24 zb (ai (cK (ab e aN (lR 29 23 2 ([mV za,mV i]) e (fun K _ _ e=>?_)))));replace e:=e.aS (SlO.of_flat (sz:=1) (f:=ar) (d:=0) (l:=[za,i]) (fun _=>rfl) e.f.1);exact ak 30 e (dI (sB K) 2 ([za,i]) 2 ((a*b)) (by first|rfl|assumption|(simp;done)|(simp;omega)|omega) (Dg.cons oM (Dg.one oM)) (by show za+18446744073709551616*(i+18446744073709551616*0)=a*b;omega) sM sM _ _ e.g e.f.1) (fun _ _ e=>lP 0 0 (nc (a*b)) e (fun _ e=>af e [(0,0,2)] (nv (a*b)) rfl))
 have I:=eq_of_beq zb;exact lB 24 zb (au (ab e [.c,.v (.agg #[mV za,eS])] (lP 0 0 ([mV za,eS]) e (fun _ e=>af e [(0,0,2)] (.agg #[mV za,eS]) (by rw[show za=a*b by omega];exact im oM)))))
theorem He (a b:Nat)(C:(wds a).length<=1000000000)(K:(wds b).length<=1000000000)(l:18446744073709551616<=a)(w:World)(h:Hp)(g:G w h):CV 80 #[nv a,nv b] w h (nv (a*b)):=by
 have c:=sS g;refine go Tryz.func80 [(0,nv a),(1,nv b)] rfl (aD (lA 2 25 (nc a) c (fun H w2 W c=>lA 3 25 (nc b) c (fun O Q U c=>lA 4 25 ([uV 0,eS]) c (fun V S M c=>ag (ab c [.v (qP H 1),.o (.string (hi a)) 2 1 1] (lV 9 qF ?_ (hr:=rb kR (ja (fw l))))))))));refine lL c ae (lG 11 ?_);refine lG 12 (lG 13 (lL c [.v qF] (ai (cK (cQ (cR 6 [] mixed c ao ?_))))));refine eO 0 31 [(2,0,2)] (nv a) c (eO 2 33 [(1,0,2)] (nv b) c (eC 1 32 c (fun _ _ c=>gl a oM _ _ c.g) ?_));rintro _ _ _ _ _ c ⟨x,u,rfl,z,i⟩;replace c:=c.aS i;refine eC 3 34 c (fun _ _ c=>gl b oM _ _ c.g) ?_;rintro _ _ _ _ _ c ⟨d,p,rfl,y,j⟩;replace c:=c.aS j;refine eC 4 35 c (fun _ _ c=>D4 x u (wds a) d p (wds b) (Wd.wds a) (Wd.wds b) oM oM _ _ c.g c.f.2.1 c.f.1) ?_;rintro _ _ _ _ _ c ⟨D,I,B,rfl,L,F,k,e,J⟩;replace c:=c.aS J;exact aj 5 36 c (fun _ _ c=>dI D I (B) B.length ((a*b)) (by first|rfl|assumption|(simp;done)|(simp;omega)|omega) (k) (e.trans (by rw[aI,aI])) sM sM _ _ c.g c.f.1) (fun _ _ c=>ce c (fun _ _ c=>tP 6 0 0 (nc (a*b)) c (fun _ c=>tN (kX (c.ret [(0,0,2)] (nv (a*b)) rfl)))))
theorem G8 (a b:Nat)(F:(wds a).length<=1000000000)(O:(wds b).length<=1000000000)(u:a<18446744073709551616)(e:18446744073709551616<=b)(w:World)(h:Hp)(g:G w h):CV 80 #[nv a,nv b] w h (nv (a*b)):=by
 have d:=sS g;refine go Tryz.func80 [(0,nv a),(1,nv b)] rfl (aD (lA 2 25 (nc a) d (fun K w2 Y d=>lA 3 25 (nc b) d (fun J U W d=>lA 4 25 ([uV 0,eS]) d (fun X V S d=>ag (ab d [.v (qP K 1),.o (.string (hi a)) 2 1 1] (lV 9 qT ?_ (hr:=rb kR (iu (dR u))))))))));refine lL d [.c,.v (qP J 1),.o (.string (hi b)) 1 1 1] (lV 13 qF ?_ (hr:=rb kR (ja (fw e))));refine lL d [.v qF] (ai (cK (cQ (cR 6 [] mixed d ao ?_))));refine eO 0 31 [(2,0,2)] (nv a) d (eO 2 33 [(1,0,2)] (nv b) d (eC 1 32 d (fun _ _ d=>gl a oM _ _ d.g) ?_));rintro _ _ _ _ _ d ⟨z,y,rfl,C,k⟩;replace d:=d.aS k;refine eC 3 34 d (fun _ _ d=>gl b oM _ _ d.g) ?_;rintro _ _ _ _ _ d ⟨i,x,rfl,B,l⟩;replace d:=d.aS l;refine eC 4 35 d (fun _ _ d=>D4 z y (wds a) i x (wds b) (Wd.wds a) (Wd.wds b) oM oM _ _ d.g d.f.2.1 d.f.1) ?_;rintro _ _ _ _ _ d ⟨H,L,D,rfl,Q,I,p,j,M⟩;replace d:=d.aS M;exact aj 5 36 d (fun _ _ d=>dI H L (D) D.length ((a*b)) (by first|rfl|assumption|(simp;done)|(simp;omega)|omega) (p) (j.trans (by rw[aI,aI])) sM sM _ _ d.g d.f.1) (fun _ _ d=>ce d (fun _ _ d=>tP 6 0 0 (nc (a*b)) d (fun _ d=>tN (kX (d.ret [(0,0,2)] (nv (a*b)) rfl)))))
theorem rv (a b:Nat)(d:(wds a).length<=1000000000)(c:(wds b).length<=1000000000)(w:World)(h:Hp)(g:G w h):CV 80 #[nv a,nv b] w h (nv (a*b)):=by
 rcases ep a 18446744073709551616 with h1|h1
 ·rcases ep b 18446744073709551616 with h2|h2
  ·exact Hl a b d c h1 h2 w h g
  ·exact G8 a b d c h1 h2 w h g
 ·exact He a b d c h1 w h g
theorem Dw (a b:Nat)(J:0<b)(M:(wds a).length<=1000000000)(I:(wds b).length<=1000000000)(z:a<18446744073709551616)(l:b<18446744073709551616)(w:World)(h:Hp)(g:G w h):CV 122 #[nv a,nv b] w h (.tuple #[nv (a/b),nv (a%b),.bool true]):=by
 have d:=sS g;have K:=(cW J).2.2;have L:=y4 l;refine go Tryz.func122 [(0,nv a),(1,nv b)] rfl (aD (lA 2 25 (nc a) d (fun F w2 V d=>lA 3 25 (nc b) d (fun D S U d=>lA 4 25 ([uV 0,eS]) d (fun O W Q d=>lA 5 25 ([uV 0,eS]) d (fun zb _ _ d=>lL d ae (ag (ab d [.o (nv b) 2 0 2] (ak 12 d (fV b I _ _ d.g) (fun _ _ d=>?_))))))))));have za:(((nb b:Nat):Int) == (0:Int))=false:=fl oM;have H:=ah za;refine lB 13 za (ai (cK (cQ (ab d [.v (qP F 1),.o (.string (hi a)) 3 1 1] (lV 18 qT ?_ (hr:=rb kR (iu (dR z))))))));refine lL d [.c,.v (qP D 1),.o (.string (hi b)) 2 1 1] (lV 22 qT ?_ (hr:=rb kR (iu (dR l))));refine lL d [.v qT] (au (cQ ?_));have B:=d;refine kT 12 [] [O,zb] mixed d ao (eV 0 24 (pB F) (eO 1 25 [(3,0,1)] (mV (a%18446744073709551616)) d (eV 2 26 (pB D) (eO 3 27 [(2,0,1)] (mV (b%18446744073709551616)) d (eV 4 28 (mV ((a%18446744073709551616)/(b%18446744073709551616))) ?_ (hv:=fun _=>ba (dZ (t:=23) (u:=23) (x:=.tmp 25) (y:=.tmp 27) (k:=.u64) (a:=((a%18446744073709551616:Nat):Int)) (b:=((b%18446744073709551616:Nat):Int)) kR kR kR oM _) (l8 (a%18446744073709551616) (b%18446744073709551616) oM)))))));refine eV 5 29 (.agg #[mV ((a%18446744073709551616)/(b%18446744073709551616)),eS]) (eV 6 30 (pB F) (jW 7 31 [(3,0,1)] (mV (a%18446744073709551616)) B d ?_ (hM:=fun p C=>by obtain rfl:=vl.1 C;exact fun f=>by rcases hP.1 f with e|f;exact bJ d.st (i:=3) (j:=1) kR kR kR e;rcases hP.1 f with e|f;exact bJ d.st (i:=3) (j:=0) kR kR kR e;cases f)));refine eV 8 32 (pB D) (jW 9 33 [(2,0,1)] (mV (b%18446744073709551616)) B d ?_ (hM:=fun p C=>by obtain rfl:=vl.1 C;exact fun f=>by rcases hP.1 f with e|f;exact bJ d.st (i:=2) (j:=1) kR kR kR e;rcases hP.1 f with e|f;exact bJ d.st (i:=2) (j:=0) kR kR kR e;cases f));refine eV 10 34 (mV ((a%18446744073709551616)%(b%18446744073709551616))) ?_ (hv:=fun _=>ba (gn (t:=23) (u:=23) (x:=.tmp 31) (y:=.tmp 33) (k:=.u64) (a:=((a%18446744073709551616:Nat):Int)) (b:=((b%18446744073709551616:Nat):Int)) kR kR kR oM _) (dY (a%18446744073709551616) (b%18446744073709551616)));refine eV 11 35 (.agg #[mV ((a%18446744073709551616)%(b%18446744073709551616)),eS]) (ce d (fun _ _ d=>tP 12 1 0 ([mV ((a%18446744073709551616)/(b%18446744073709551616)),eS]) d (fun _ d=>?_) (hz:=a6 (Kf))));refine tP 13 0 0 ([mV ((a%18446744073709551616)%(b%18446744073709551616)),eS]) d (fun _ d=>?_) (hz:=a6 (Kg _<|Kf));exact tV 14 6 qT (tN (kX (d.ret [(1,0,2),(0,0,2)] (.tuple #[.agg #[mV ((a%18446744073709551616)/(b%18446744073709551616)),eS],.agg #[mV ((a%18446744073709551616)%(b%18446744073709551616)),eS],qT]) (by rw[y4 z,y4 l,im (show a/b<18446744073709551616 by have:=Bb a b;omega),im (show a%b<18446744073709551616 by have:=y5 a J;omega)]))))
theorem GC (a b:Nat)(hb:0<b)(H:(wds a).length<=1000000000)(M:(wds b).length<=1000000000)(has:18446744073709551616<=a)(u:b<18446744073709551616)(w:World)(h:Hp)(g:G w h):CV 122 #[nv a,nv b] w h (.tuple #[nv (a/b),nv (a%b),.bool true]):=by
 have i:=sS g;have bv:=(cW hb).2.2;have bt:=y4 u;have hcl:=gB (show b<=a by omega);refine go Tryz.func122 [(0,nv a),(1,nv b)] rfl (aD (lA 2 25 (nc a) i (fun K w2 h3 i=>lA 3 25 (nc b) i (fun C w5 h6 i=>lA 4 25 ([uV 0,eS]) i (fun S w8 h9 i=>lA 5 25 ([uV 0,eS]) i (fun za _ _ i=>lL i ae (ag (ab i [.o (nv b) 2 0 2] (ak 12 i (fV b M _ _ i.g) (fun _ _ i=>?_))))))))));have zb:(((nb b:Nat):Int) == (0:Int))=false:=fl oM;have bf:=ah zb;refine lB 13 zb (ai (cK (cQ (ab i [.v (qP K 1),.o (.string (hi a)) 3 1 1] (lV 18 qF ?_ (hr:=rb kR (ja (fw has))))))));refine lL i ae (lG 20 ?_);refine lG 21 (lG 22 (lL i [.v qF] (ai (cK (cQ (ab i [.o (nv a) 3 0 2,.o (nv b) 2 0 2] (ak 38 i (mN a b H M _ _ i.g) (fun zd _ i=>?_))))))));have ⟨zc,Z⟩:=dF (p:=(cA a b:Int)<(0:Int)) oM;refine lB 39 zc (ai (cK (cQ (ab i [.v (qP C 1),.o (.string (hi b)) 2 1 1] (lV 44 qT ?_ (hr:=rb kR (iu (dR u))))))));refine au (cQ ?_);obtain ⟨y,hK_⟩:∃ y,y=zd.heap.size:=⟨_,rfl⟩;have Q:za<y:=by rw[hK_];exact ft i 0
 have bb:S<y:=by rw[hK_];exact ft i 1
 have x:C<y:=by rw[hK_];exact ft i 2
 have B:K<y:=by rw[hK_];exact ft i 3
 refine Bd ⟨[],some (y,[])⟩ 0 mixed ?_;have bq:=i.g.size;replace i:=i.drew;have k:=Ke hK_;refine zO 0 46 [(3,0,2)] (nv a) rfl k i (fun p X=>by obtain rfl:=vl.1 X;exact B) (zV 2 48 (pB C) (zO 3 49 [(2,0,1)] (mV (b%18446744073709551616)) rfl k i (fun p X=>by obtain rfl:=vl.1 X;exact x) (sF 1 47 (fu a oM oM _ _ i.g) rfl k ?_)));rintro _ _ _ W k ⟨j,rfl,O,J,bm⟩;obtain ⟨_,i,-,-⟩:=i.take W O J;replace i:=i.to [⟨j,23,(wds a).flatMap ar⟩,⟨za,25,[uV 0,eS]⟩,⟨S,25,[uV 0,eS]⟩,⟨C,25,nc b⟩,⟨K,25,nc a⟩] [];refine Jd 4 50 (GY j (wds a) (wds a).length (b%18446744073709551616) oM oM (Wd.wds a) H (nR _) _ _ i.g (i.own 0) (i.jk 0)) rfl k oM ?_;rintro _ _ _ Y k ⟨z,r,rfl,hzl,hWz,D,F,U⟩;replace i:=(i.stepM 0 Y U).to [⟨j,23,(z).flatMap ar⟩,⟨za,25,[uV 0,eS]⟩,⟨S,25,[uV 0,eS]⟩,⟨C,25,nc b⟩,⟨K,25,nc a⟩] [];refine zV 5 45 (.tuple #[qS (sB j) (tl z z.length) ((wds a).length),mV r]) (zV 6 51 (qS (sB j) (tl z z.length) ((wds a).length)) (zV 7 52 (mV r) (zV 8 7 (qS (sB j) (tl z z.length) ((wds a).length)) (zV 9 8 (mV r) (uy ?_)))));have L:=y4 u;rw[aI,L] at D
 rw[L] at F
 obtain ⟨V,hq2⟩:=Ce D F;have htz:=jf z z.length;have hQ:aE (z.take (tl z z.length))=a/b:=by have e:=jF 18446744073709551616 z z.length (nR _);rw[yN] at e;exact e.trans V
 obtain ⟨_,i,I,bn,bl⟩:=i.pub 0;replace i:=(i.to [⟨za,25,[uV 0,eS]⟩,⟨S,25,[uV 0,eS]⟩,⟨C,25,nc b⟩,⟨K,25,nc a⟩] []).aS (SlO.of_flat (sz:=1) (f:=ar) (d:=0) (b:=j) (o:=0) (l:=z) (fun _=>rfl) I);exact lL i ae (ak 54 i (dI (sB j) ((wds a).length) (z.take (tl z z.length)) (tl z z.length) ((a/b)) (by first|rfl|assumption|(simp;done)|(simp;omega)|omega) (Dg.take hWz _) (hQ) sM sM _ _ i.g ((i.f.1).take _)) (fun _ _ i=>lL i [.c,.v (.agg #[mV r,eS])] (lP 1 0 (nc (a/b)) i (fun _ i=>lP 0 0 ([mV r,eS]) i (fun _ i=>lL i ae (af i [(1,0,2),(0,0,2)] (.tuple #[nv (a/b),.agg #[mV r,eS],qT]) (by rw[hq2,im (by have:=y5 a hb;omega)])))))))
theorem HJ (a b:Nat)(W:0<b)(d:(wds a).length<=1000000000)(i:(wds b).length<=1000000000)(j:b<=a)(H:18446744073709551616<=a)(e:18446744073709551616<=b)(w:World)(h:Hp)(g:G w h):CV 122 #[nv a,nv b] w h (.tuple #[nv (a/b),nv (a%b),.bool true]):=by
 have c:=sS g;have X:=(cW W).2.2;have hcl:=gB j;have hlm:=dh j;have hl2:=dg e;refine go Tryz.func122 [(0,nv a),(1,nv b)] rfl (aD (lA 2 25 (nc a) c (fun b1 w2 h3 c=>lA 3 25 (nc b) c (fun b4 w5 h6 c=>lA 4 25 ([uV 0,eS]) c (fun b7 w8 h9 c=>lA 5 25 ([uV 0,eS]) c (fun b10 _ _ c=>lL c ae (ag (ab c [.o (nv b) 2 0 2] (ak 12 c (fV b i _ _ c.g) (fun _ _ c=>?_))))))))));have za:(((nb b:Nat):Int) == (0:Int))=false:=fl oM;have M:=ah za;refine lB 13 za (ai (cK (cQ (ab c [.v (qP b1 1),.o (.string (hi a)) 3 1 1] (lV 18 qF ?_ (hr:=rb kR (ja (fw H))))))));refine lL c ae (lG 20 ?_);refine lG 21 (lG 22 (lL c [.v qF] (ai (cK (cQ (ab c [.o (nv a) 3 0 2,.o (nv b) 2 0 2] (ak 38 c (mN a b d i _ _ c.g) (fun _ _ c=>?_))))))));have ⟨zb,D⟩:=dF (p:=(cA a b:Int)<(0:Int)) oM;refine lB 39 zb (ai (cK (cQ (ab c [.v (qP b4 1),.o (.string (hi b)) 2 1 1] (lV 44 qF ?_ (hr:=rb kR (ja (fw e))))))));refine ai (cK (cQ (cR 8 [] mixed c ao ?_)));refine eO 0 58 [(3,0,2)] (nv a) c (eO 2 60 [(2,0,2)] (nv b) c (eC 1 59 c (fun _ _ c=>gl a oM _ _ c.g) ?_));rintro _ _ _ _ _ c ⟨S,O,rfl,V,B⟩;replace c:=c.aS B;refine eC 3 61 c (fun _ _ c=>gl b oM _ _ c.g) ?_;rintro _ _ _ _ _ c ⟨z,L,rfl,U,F⟩;replace c:=c.aS F;refine eC 4 62 c (fun _ _ c=>Fn S O (wds a) z L (wds b) (Wd.wds a) (Wd.wds b) d oM oM (l9 W) _ _ c.g c.f.2.1 c.f.1) ?_;rintro _ _ _ _ _ c ⟨u,l,q,x,k,r,rfl,Z,hcr,J,Q,y,I,Y,hlr,K,C⟩;replace c:=c.aP K C;exact eV 5 57 (.tuple #[qS u q.length l,qS x r.length k]) (eV 6 63 (qS u q.length l) (eV 7 64 (qS x r.length k) (ce c (fun _ _ c=>tV 8 9 (qS u q.length l) (tV 9 10 (qS x r.length k) (uy (lL c ae (ak 66 c (dI u l (q) q.length ((a/b)) (by first|rfl|assumption|(simp;done)|(simp;omega)|omega) (J) (y.trans (by rw[aI,aI])) sM sM _ _ c.g c.f.2.1) (fun _ _ c=>lL c ae (ak 68 c (dI x k (r) r.length ((a%b)) (by first|rfl|assumption|(simp;done)|(simp;omega)|omega) (Q) (I.trans (by rw[aI,aI])) sM sM _ _ c.g c.f.1) (fun _ _ c=>lP 1 0 (nc (a/b)) c (fun _ c=>lP 0 0 (nc (a%b)) c (fun _ c=>lL c ae (af c [(1,0,2),(0,0,2)] (.tuple #[nv (a/b),nv (a%b),qT]) rfl))))))))))))))
theorem GK (a b:Nat)(J:0<b)(u:(wds a).length<=1000000000)(l:(wds b).length<=1000000000)(f:a<b)(z:a<18446744073709551616)(x:18446744073709551616<=b)(w:World)(h:Hp)(g:G w h):CV 122 #[nv a,nv b] w h (.tuple #[nv (a/b),nv (a%b),.bool true]):=by
 have d:=sS g;have D:=(cW J).2.2;have K:=dW f;refine go Tryz.func122 [(0,nv a),(1,nv b)] rfl (aD (lA 2 25 (nc a) d (fun I w2 U d=>lA 3 25 (nc b) d (fun H Q S d=>lA 4 25 ([uV 0,eS]) d (fun M V O d=>lA 5 25 ([uV 0,eS]) d (fun L _ _ d=>lL d ae (ag (ab d [.o (nv b) 2 0 2] (ak 12 d (fV b l _ _ d.g) (fun _ _ d=>?_))))))))));have za:(((nb b:Nat):Int) == (0:Int))=false:=fl oM;have C:=ah za;refine lB 13 za (ai (cK (cQ (ab d [.v (qP I 1),.o (.string (hi a)) 3 1 1] (lV 18 qT ?_ (hr:=rb kR (iu (dR z))))))));refine lL d [.c,.v (qP H 1),.o (.string (hi b)) 2 1 1] (lV 22 qF ?_ (hr:=rb kR (ja (fw x))));refine lL d [.v qF] (ai (cK (cQ (ab d [.o (nv a) 3 0 2,.o (nv b) 2 0 2] (ak 38 d (mN a b u l _ _ d.g) (fun _ _ d=>?_))))));have ⟨zb,y⟩:=dT (p:=(cA a b:Int)<(0:Int)) oM;refine lB 39 zb (au (cQ ?_));have B:=d;refine kT 2 [] [M,L] mixed d ao (eV 0 40 (.agg #[uV 0,eS]) (jW 1 41 [(3,0,2)] (nv a) B d ?_ (hM:=fun p F=>by obtain rfl:=vl.1 F;exact fun k=>by rcases hP.1 k with e|k;exact bJ d.st (i:=3) (j:=1) kR kR kR e;rcases hP.1 k with e|k;exact bJ d.st (i:=3) (j:=0) kR kR kR e;cases k)));refine ce d (fun _ _ d=>tP 2 1 0 ([uV 0,eS]) d (fun _ d=>?_) (hz:=a6 (Kf)));refine tP 3 0 0 (nc a) d (fun _ d=>?_) (hz:=a6 (Kg _<|Kf));exact tV 4 6 qT (tN (kX (d.ret [(1,0,2),(0,0,2)] (.tuple #[.agg #[uV 0,eS],nv a,qT]) (by have f:a<b:=(by rcases ep a b with h_|h_;exact h_;rcases gB h_ with e|e<;>omega);rw[Bs f,y4 f];rfl))))
theorem HR (a b:Nat)(F:0<b)(l:(wds a).length<=1000000000)(k:(wds b).length<=1000000000)(d:a<b)(x:18446744073709551616<=a)(w:World)(h:Hp)(g:G w h):CV 122 #[nv a,nv b] w h (.tuple #[nv (a/b),nv (a%b),.bool true]):=by
 have c:=sS g;have B:=(cW F).2.2;have H:=dW d;refine go Tryz.func122 [(0,nv a),(1,nv b)] rfl (aD (lA 2 25 (nc a) c (fun D w2 Q c=>lA 3 25 (nc b) c (fun L M O c=>lA 4 25 ([uV 0,eS]) c (fun J S K c=>lA 5 25 ([uV 0,eS]) c (fun I _ _ c=>lL c ae (ag (ab c [.o (nv b) 2 0 2] (ak 12 c (fV b k _ _ c.g) (fun _ _ c=>?_))))))))));have za:(((nb b:Nat):Int) == (0:Int))=false:=fl oM;have z:=ah za;refine lB 13 za (ai (cK (cQ (ab c [.v (qP D 1),.o (.string (hi a)) 3 1 1] (lV 18 qF ?_ (hr:=rb kR (ja (fw x))))))));refine lL c ae (lG 20 ?_);refine lG 21 (lG 22 (lL c [.v qF] (ai (cK (cQ (ab c [.o (nv a) 3 0 2,.o (nv b) 2 0 2] (ak 38 c (mN a b l k _ _ c.g) (fun _ _ c=>?_))))))));have ⟨zb,u⟩:=dT (p:=(cA a b:Int)<(0:Int)) oM;refine lB 39 zb (au (cQ ?_));have y:=c;refine kT 2 [] [J,I] mixed c ao (eV 0 40 (.agg #[uV 0,eS]) (jW 1 41 [(3,0,2)] (nv a) y c ?_ (hM:=fun p C=>by obtain rfl:=vl.1 C;exact fun f=>by rcases hP.1 f with e|f;exact bJ c.st (i:=3) (j:=1) kR kR kR e;rcases hP.1 f with e|f;exact bJ c.st (i:=3) (j:=0) kR kR kR e;cases f)));refine ce c (fun _ _ c=>tP 2 1 0 ([uV 0,eS]) c (fun _ c=>?_) (hz:=a6 (Kf)));refine tP 3 0 0 (nc a) c (fun _ c=>?_) (hz:=a6 (Kg _<|Kf));exact tV 4 6 qT (tN (kX (c.ret [(1,0,2),(0,0,2)] (.tuple #[.agg #[uV 0,eS],nv a,qT]) (by have d:a<b:=(by rcases ep a b with h_|h_;exact h_;rcases gB h_ with e|e<;>omega);rw[Bs d,y4 d];rfl))))
theorem HQ (a b:Nat)(e:0<b)(d:(wds a).length<=1000000000)(c:(wds b).length<=1000000000)(w:World)(h:Hp)(g:G w h):CV 122 #[nv a,nv b] w h (.tuple #[nv (a/b),nv (a%b),.bool true]):=by
 rcases ep a b with hab|hab
 ·rcases ep a 18446744073709551616 with h1|h1
  ·rcases ep b 18446744073709551616 with h2|h2
   ·exact Dw a b e d c h1 h2 w h g
   ·exact GK a b e d c hab h1 h2 w h g
  ·exact HR a b e d c hab h1 w h g
 ·rcases ep b 18446744073709551616 with h2|h2
  ·rcases ep a 18446744073709551616 with h1|h1
   ·exact Dw a b e d c h1 h2 w h g
   ·exact GC a b e d c h1 h2 w h g
  ·exact HJ a b e d c hab oM h2 w h g
theorem ku {z:Int}{b:Bool}{n:Nat}(c:av z=b)(a:ac z=n):Value.agg #[.bool b,.int .u64 (lo n),.string (hi n)]=iv z:=by subst c a;rfl
theorem gQ {z:Int}{b:Bool}(a:av z=b):iv z=Value.agg #[.bool b,.int .u64 (lo (ac z)),.string (hi (ac z))]:=(ku a rfl).symm
theorem m8 (x y:Int):cM (av x != av y) (ac x*ac y)=x*y:=by
 rcases hx:av x with _|_<;>rcases hy:av y with _|_
 ·have h1:=bg hx
  have c:=bg hy;obtain ⟨a,rfl⟩:=Kh h1;obtain ⟨b,rfl⟩:=Kh c
  simp[cM,ac,Ki,Kj,Kk]
 ·have h1:=bg hx
  have c:=bK hy;obtain ⟨a,rfl⟩:=Kh h1;obtain ⟨b,d⟩:=Kh (a:=-y) oM;obtain rfl:y = -b:=by omega
  simp[cM,ac,Ki,Kj,Kk]
 ·have h1:=bK hx
  have c:=bg hy;obtain ⟨b,rfl⟩:=Kh c;obtain ⟨a,e⟩:=Kh (a:=-x) oM;obtain rfl:x = -a:=by omega
  simp[cM,ac,Ki,Kj,Kk]
 ·have h1:=bK hx
  have c:=bK hy;obtain ⟨a,e⟩:=Kh (a:=-x) oM;obtain ⟨b,d⟩:=Kh (a:=-y) oM;obtain rfl:x = -a:=by omega
  obtain rfl:y = -b:=by omega
  simp[cM,ac,Ki,Kj,Kk]
theorem kz {a b:Nat}:(wds (a+b)).length<=(wds a).length+(wds b).length+1:=by
 refine fW kD ?_;have h1:=dH a;have d:=dH b;have e:18446744073709551616^(wds a).length<=18446744073709551616^((wds a).length+(wds b).length):=Ju kD oM;have c:18446744073709551616^(wds b).length<=18446744073709551616^((wds a).length+(wds b).length):=Ju kD oM;rw[B2]
 omega
theorem qy {a b k:Nat}(d:(wds a).length<=k)(c:(wds b).length<=k):(wds (a+b)).length<=k+1:=by
 refine fW kD ?_;have h1:=dH a;have f:=dH b;have h:18446744073709551616^(wds a).length<=18446744073709551616^k:=Ju kD d;have e:18446744073709551616^(wds b).length<=18446744073709551616^k:=Ju kD c;rw[B2]
 omega
theorem dD {a b:Nat}:(wds (a*b)).length<=(wds a).length+(wds b).length:=by
 refine fW kD ?_;rw[Jw];have h1:=dH a;have c:=dH b;exact Nat.lt_of_lt_of_le (Nat.mul_lt_mul'' h1 c) (Nat.le_refl _)
theorem ax {a b k:Nat}(h:a<=b)(c:(wds b).length<=k):(wds a).length<=k:=e6 (dh h) c
theorem pn (a:Nat)(w:World)(h:Hp)(g:G w h):CV 50 #[.bool false,nv a] w h (iv (cM false a)):=by
 have b:=sS g;refine go Tryz.func50 [(0,qF),(1,nv a)] rfl (aD (lA 3 25 (nc a) b (fun i w2 j b=>lA 4 27 ([qF,uV 0,eS]) b (fun d f e b=>ag (cR 8 [] mixed b ao ?_)))));exact eV 0 5 qF (eV 1 6 qF (eG 2 7 (eG 3 8 (eG 4 9 (eV 5 10 qF (eO 6 11 [(1,0,2)] (nv a) b (eV 7 12 (wX qF a) (ce b (fun k c b=>tP 8 0 0 (wC qF a) b (fun l b=>tN (kX (b.ret [(0,0,3)] (wX qF a) (ku (by rw[jI];rfl) (fh _ _))))))))))))))
theorem Gf (f:(wds 0).length<=1000000000)(w:World)(h:Hp)(g:G w h):CV 50 #[.bool true,nv 0] w h (iv (cM true 0)):=by
 have a:=sS g;have b:nb 0=0:=rfl;refine go Tryz.func50 [(0,qT),(1,nv 0)] rfl (aD (lA 3 25 (nc 0) a (fun k w2 l a=>lA 4 27 ([qF,uV 0,eS]) a (fun d j i a=>ag (cR 8 [] mixed a ao ?_)))));refine eV 0 5 qT (eV 1 6 qT (eO 2 7 [(1,0,2)] (nv 0) a (eO 6 11 [(1,0,2)] (nv 0) a (aj 3 8 a (fun _ _ a=>fV 0 aM _ _ a.g) (fun o c a=>eV 4 9 qF ?_ (hv:=fun _=>rb (e:=decide ((0:Int)<((nb 0:Nat):Int))) kR (decide_eq_false oM)))))));exact eV 5 10 qF (eV 7 12 (wX qF 0) (ce a (fun p _ a=>tP 8 0 0 (wC qF 0) a (fun _ a=>tN (kX (a.ret [(0,0,3)] (wX qF 0) (ku (by rw[jI];rfl) (fh _ _))))))))
theorem El (a:Nat)(c:0<a)(j:(wds a).length<=1000000000)(w:World)(h:Hp)(g:G w h):CV 50 #[.bool true,nv a] w h (iv (cM true a)):=by
 have b:=sS g;have d:=(cW c).2.2;refine go Tryz.func50 [(0,qT),(1,nv a)] rfl (aD (lA 3 25 (nc a) b (fun o w2 p b=>lA 4 27 ([qF,uV 0,eS]) b (fun i l k b=>ag (cR 8 [] mixed b ao ?_)))));refine eV 0 5 qT (eV 1 6 qT (eO 2 7 [(1,0,2)] (nv a) b (eO 6 11 [(1,0,2)] (nv a) b (aj 3 8 b (fun _ _ b=>fV a aM _ _ b.g) (fun u f b=>eV 4 9 qT ?_ (hv:=fun _=>rb (e:=decide ((0:Int)<((nb a:Nat):Int))) kR (decide_eq_true oM)))))));exact eV 5 10 qT (eV 7 12 (wX qT a) (ce b (fun x _ b=>tP 8 0 0 (wC qT a) b (fun _ b=>tN (kX (b.ret [(0,0,3)] (wX qT a) (ku (by rw[jI];simpa using c) (fh _ _))))))))
theorem gc (b:Bool)(a:Nat)(c:(wds a).length<=1000000000)(w:World)(h:Hp)(g:G w h):CV 50 #[.bool b,nv a] w h (iv (cM b a)):=by
 cases b
 ·exact pn a w h g
 ·rcases zT a with h0|h0
  ·subst h0;exact Gf c w h g
  ·exact El a h0 c w h g
theorem IE (z:Int)(h0 : -9223372036854775808<=z)(hz:z<0)(w:World)(h:Hp)(g:G w h):CV 37 #[iV z] w h (iv z):=by
 have a:=sS g;have d:ac z<=9223372036854775808:=by unfold ac;omega
 refine go Tryz.func37 [(0,iV z)] rfl (aD (lA 2 27 ([qF,uV 0,eS]) a (fun i w2 j a=>ag (ab a ae ?_))));have ⟨b,c⟩:=dT (p:=(z:Int)<(0:Int)) oM;refine lB 4 b (au (ab a ae (lV 6 (mV (18446744073709551616-ac z)) ?_ (hr:=rU (z) kR (by rw[IntKind.wrap_u64];unfold ac;omega)))));refine lV 7 (mV (ac z)) ?_ (hr:=rU ((0-((18446744073709551616-ac z:Nat):Int))) kR (by rw[IntKind.wrap_u64];omega));exact ak 8 a (H5 (ac z) oM _ _ a.g) (fun f e a=>lL a [.v (wX qT (ac z))] (lP 0 0 (wC qT (ac z)) a (fun k a=>af a [(0,0,3)] (wX qT (ac z)) (ku (by simp[av,hz]) rfl))))
theorem IN (n:Nat)(h1:n<9223372036854775808)(w:World)(h:Hp)(g:G w h):CV 37 #[nV n] w h (iv (n:Int)):=by
 have a:=sS g;refine go Tryz.func37 [(0,nV n)] rfl (aD (lA 2 27 ([qF,uV 0,eS]) a (fun f w2 i a=>ag (ab a ae ?_))));have ⟨b,c⟩:=dF (p:=(n:Int)<(0:Int)) oM;refine lB 4 b (ai (cK (ab a ae (lV 11 (mV n) ?_ (hr:=rU ((n:Int)) kR (bX oM oM))))));exact ak 12 a (H5 n oM _ _ a.g) (fun e d a=>lL a [.v (wX qF n)] (lP 0 0 (wC qF n) a (fun j a=>af a [(0,0,3)] (wX qF n) (ku (by simp[av]) (by simp[ac])))))
theorem Jm (z:Int)(h0 : -9223372036854775808<=z)(h1:z<=9223372036854775807)(w:World)(h:Hp)(g:G w h):CV 37 #[iV z] w h (iv z):=by
 rcases Int.lt_or_le z 0 with hz|hz
 ·exact IE z h0 hz w h g
 ·obtain ⟨n,rfl⟩:=Kh hz
  exact IN n oM w h g
def fj(x y:Int):Int:=if x<y then -1 else if y<x then 1 else 0
theorem BE {x y:Int}(h:x<y):fj x y = -1:=by simp[fj,h]
theorem Bn {x y:Int}(h:y<x):fj x y=1:=by unfold fj;rw[if_neg oM,if_pos h]
theorem C6 {x y:Int}(b:0<=x)(a:0<=y):fj x y=cA (ac x) (ac y):=by
 unfold fj cA ac
 have e1:(x<y)=(x.natAbs<y.natAbs):=by apply propext;omega
 have e2:(y<x)=(y.natAbs<x.natAbs):=by apply propext;omega
 simp only[e1,e2]
theorem B9 {x y:Int}(b:x<0)(a:y<0):fj x y=cA (ac y) (ac x):=by
 unfold fj cA ac
 have e1:(x<y)=(y.natAbs<x.natAbs):=by apply propext;omega
 have e2:(y<x)=(x.natAbs<y.natAbs):=by apply propext;omega
 simp only[e1,e2]
theorem uM (z:Int)(w:World)(h:Hp)(g:G w h):CV 95 #[iv z] w h (nv (ac z)):=by
 have a:=sS g;exact go Tryz.func95 [(0,iv z)] rfl (aD (lA 1 27 (ic z) a (fun b w2 f a=>lA 2 25 ([uV 0,eS]) a (fun c e d a=>a7 (lL a [.v (qP b 1),.o (nv (ac z)) 1 1 2] (lP 0 0 (nc (ac z)) a (fun i a=>af a [(0,0,2)] (nv (ac z)) rfl)))))))
theorem EV (z:Int)(hz:av z=true)(w:World)(h:Hp)(g:G w h):CV 81 #[wX (.bool true) (ac z)] w h (iV z.sign):=by
 have a:=sS g;exact go Tryz.func81 [(0,wX qT (ac z))] rfl (aD (lA 1 27 (wC qT (ac z)) a (fun b w2 d a=>lL a ae (ag (kZ (ab a [.v (pB b),.o qT 0 0 1,.c] (au (ab a ae (af a [] (iV (-1)) (by rw[Kl (bK hz)]))))))))))
theorem Ed (z:Int)(j:(wds (ac z)).length<=1000000000)(hz:av z=false)(h0:0<ac z)(w:World)(h:Hp)(g:G w h):CV 81 #[wX (.bool false) (ac z)] w h (iV z.sign):=by
 have a:=sS g;have f:=(cW h0).2.2;refine go Tryz.func81 [(0,wX qF (ac z))] rfl (aD (lA 1 27 (wC qF (ac z)) a (fun d w2 k a=>lL a ae (ag (kZ (ab a [.v (pB d),.o qF 0 0 1,.c] (ai (ab a [.v (qP d 1),.o (nv (ac z)) 0 1 2] (ak 9 a (fV (ac z) aM _ _ a.g) (fun l i a=>?_))))))))));have ⟨b,e⟩:=dT (p:=(0:Int)<((nb (ac z):Nat):Int)) oM;exact lB 10 b (lL a ae (au (ab a ae (af a [] (iV 1) (by rw[Km (by have:=bg hz;unfold ac at h0;omega)])))))
theorem Ew (j:(wds (ac 0)).length<=1000000000)(w:World)(h:Hp)(g:G w h):CV 81 #[wX (.bool false) (ac 0)] w h (iV 0):=by
 have a:=sS g;have f:nb (ac 0)=0:=rfl;refine go Tryz.func81 [(0,wX qF (ac 0))] rfl (aD (lA 1 27 (wC qF (ac 0)) a (fun d w2 k a=>lL a ae (ag (kZ (ab a [.v (pB d),.o qF 0 0 1,.c] (ai (ab a [.v (qP d 1),.o (nv (ac 0)) 0 1 2] (ak 9 a (fV (ac 0) aM _ _ a.g) (fun l i a=>?_))))))))));have ⟨b,e⟩:=dF (p:=(0:Int)<((nb (ac 0):Nat):Int)) oM;exact lB 10 b (lL a ae (ai (cK (ab a ae (af a [] (iV 0) rfl)))))
theorem mL (z:Int)(a:(wds (ac z)).length<=1000000000)(w:World)(h:Hp)(g:G w h):CV 81 #[iv z] w h (iV z.sign):=by
 rcases hz:av z with _|_
 ·rw[gQ hz]
  rcases zT (ac z) with h0|h0
  ·have:z=0:=by unfold ac at h0;omega
   subst this;exact Ew a w h g
  ·exact Ed z a hz h0 w h g
 ·rw[gQ hz];exact EV z hz w h g
theorem Gy (z:Int)(f:(wds (ac z)).length<=1000000000)(hz:av z=false)(w:World)(h:Hp)(g:G w h):CV 93 #[wX (.bool false) (ac z)] w h (iv (-z)):=by
 have a:=sS g;exact go Tryz.func93 [(0,wX qF (ac z))] rfl (aD (lA 1 27 (wC qF (ac z)) a (fun b w2 k a=>lA 2 27 ([qF,uV 0,eS]) a (fun d j i a=>a7 (lL a [.v (pB b),.o qF 1 0 1,.v qT,.v (qP b 1),.o (nv (ac z)) 1 1 2] (ak 8 a (gc true (ac z) aM _ _ a.g) (fun l c a=>lP 0 0 (ic (cM true (ac z))) a (fun p a=>af a [(0,0,3)] (iv (cM true (ac z))) (by have e:=t7 z;rw[hz] at e;exact congrArg iv e)))))))))
theorem G5 (z:Int)(f:(wds (ac z)).length<=1000000000)(hz:av z=true)(w:World)(h:Hp)(g:G w h):CV 93 #[wX (.bool true) (ac z)] w h (iv (-z)):=by
 have a:=sS g;exact go Tryz.func93 [(0,wX qT (ac z))] rfl (aD (lA 1 27 (wC qT (ac z)) a (fun b w2 k a=>lA 2 27 ([qF,uV 0,eS]) a (fun d j i a=>a7 (lL a [.v (pB b),.o qT 1 0 1,.v qF,.v (qP b 1),.o (nv (ac z)) 1 1 2] (ak 8 a (gc false (ac z) aM _ _ a.g) (fun l c a=>lP 0 0 (ic (cM false (ac z))) a (fun p a=>af a [(0,0,3)] (iv (cM false (ac z))) (by have e:=t7 z;rw[hz] at e;exact congrArg iv e)))))))))
theorem G9 (z:Int)(a:(wds (ac z)).length<=1000000000)(w:World)(h:Hp)(g:G w h):CV 93 #[iv z] w h (iv (-z)):=by
 rcases hz:av z with _|_<;>rw[gQ hz]
 ·exact Gy z a hz w h g
 ·exact G5 z a hz w h g
theorem En (x y:Int)(f:(wds (ac x)).length<=1000000000)(j:(wds (ac y)).length<=1000000000)(i:av x=false)(e:av y=false)(w:World)(h:Hp)(g:G w h):CV 44 #[wX (.bool false) (ac x),wX (.bool false) (ac y)] w h (iV (fj x y)):=by
 have a:=sS g;refine go Tryz.func44 [(0,wX qF (ac x)),(1,wX qF (ac y))] rfl (aD (lA 2 27 (wC qF (ac x)) a (fun b w2 u a=>lA 3 27 (wC qF (ac y)) a (fun d p l a=>lL a ae (ag (kZ (ab a [.v (pB b),.o qF 1 0 1,.c] (lG 9 ?_))))))));exact lG 10 (lL a [.v qF,.c] (ai (ab a [.v (pB b),.o qF 1 0 1,.c] (ai (ab a [.v (pB d),.o qF 0 0 1,.c] (ai (cK (ab a [.v (qP b 1),.o (nv (ac x)) 1 1 2,.v (qP d 1),.o (nv (ac y)) 0 1 2] (ak 27 a (mN (ac x) (ac y) aM aM _ _ a.g) (fun z k a=>lL a ae (af a [] (iV (cA (ac x) (ac y))) (by rw[C6 (bg i) (bg e)]))))))))))))
theorem FQ (x y:Int)(d:(wds (ac x)).length<=1000000000)(i:(wds (ac y)).length<=1000000000)(j:av x=false)(e:av y=true)(w:World)(h:Hp)(g:G w h):CV 44 #[wX (.bool false) (ac x),wX (.bool true) (ac y)] w h (iV (fj x y)):=by
 have a:=sS g;refine go Tryz.func44 [(0,wX qF (ac x)),(1,wX qT (ac y))] rfl (aD (lA 2 27 (wC qF (ac x)) a (fun b w2 p a=>lA 3 27 (wC qT (ac y)) a (fun f l k a=>lL a ae (ag (kZ (ab a [.v (pB b),.o qF 1 0 1,.c] (lG 9 ?_))))))));exact lG 10 (lL a [.v qF,.c] (ai (ab a [.v (pB b),.o qF 1 0 1,.c] (ai (ab a [.v (pB f),.o qT 0 0 1,.c] (au (ab a ae (af a [] (iV 1) (by rw[Bn (by have:=bg j;have:=bK e;omega)])))))))))
theorem FY (x y:Int)(d:(wds (ac x)).length<=1000000000)(i:(wds (ac y)).length<=1000000000)(j:av x=true)(e:av y=false)(w:World)(h:Hp)(g:G w h):CV 44 #[wX (.bool true) (ac x),wX (.bool false) (ac y)] w h (iV (fj x y)):=by
 have a:=sS g;exact go Tryz.func44 [(0,wX qT (ac x)),(1,wX qF (ac y))] rfl (aD (lA 2 27 (wC qT (ac x)) a (fun b w2 p a=>lA 3 27 (wC qF (ac y)) a (fun f l k a=>lL a ae (ag (kZ (ab a [.v (pB b),.o qT 1 0 1,.c,.v (pB f),.o qF 0 0 1,.v qF,.c] (ai (ab a [.v (pB b),.o qT 1 0 1,.c] (au (ab a ae (af a [] (iV (-1)) (by rw[BE (by have:=bK j;have:=bg e;omega)])))))))))))))
theorem Gj (x y:Int)(f:(wds (ac x)).length<=1000000000)(j:(wds (ac y)).length<=1000000000)(i:av x=true)(e:av y=true)(w:World)(h:Hp)(g:G w h):CV 44 #[wX (.bool true) (ac x),wX (.bool true) (ac y)] w h (iV (fj x y)):=by
 have a:=sS g;exact go Tryz.func44 [(0,wX qT (ac x)),(1,wX qT (ac y))] rfl (aD (lA 2 27 (wC qT (ac x)) a (fun d w2 u a=>lA 3 27 (wC qT (ac y)) a (fun b p l a=>lL a ae (ag (kZ (ab a [.v (pB d),.o qT 1 0 1,.c,.v (pB b),.o qT 0 0 1,.v qT,.c] (au (ab a [.v (qP b 1),.o (nv (ac y)) 0 1 2,.v (qP d 1),.o (nv (ac x)) 1 1 2] (ak 16 a (mN (ac y) (ac x) aM aM _ _ a.g) (fun z k a=>lL a ae (af a [] (iV (cA (ac y) (ac x))) (by rw[B9 (bK i) (bK e)])))))))))))))
theorem xj (x y:Int)(a:(wds (ac x)).length<=1000000000)(b:(wds (ac y)).length<=1000000000)(w:World)(h:Hp)(g:G w h):CV 44 #[iv x,iv y] w h (iV (fj x y)):=by
 rcases hx:av x with _|_<;>rcases hy:av y with _|_<;>rw[gQ hx,gQ hy]
 ·exact En x y a b hx hy w h g
 ·exact FQ x y a b hx hy w h g
 ·exact FY x y a b hx hy w h g
 ·exact Gj x y a b hx hy w h g
theorem F3 (x y:Int)(d:(wds (ac x)).length<=1000000000)(j:(wds (ac y)).length<=1000000000)(e:(wds (ac x+ac y)).length<=1000000000)(l:av x=false)(i:av y=false)(w:World)(h:Hp)(g:G w h):CV 75 #[wX (.bool false) (ac x),wX (.bool false) (ac y)] w h (iv (x+y)):=by
 have a:=sS g;have f:=bg l;have k:=bg i;refine go Tryz.func75 [(0,wX qF (ac x)),(1,wX qF (ac y))] rfl (aD (lA 2 27 (wC qF (ac x)) a (fun b w2 C a=>lA 3 27 (wC qF (ac y)) a (fun c u z a=>lA 4 27 ([qF,uV 0,eS]) a (fun B D p a=>ag (ab a [.v (pB b),.o qF 2 0 1,.v (pB c),.o qF 1 0 1,.v qT] (au (cQ (cR 8 [] mixed a ao ?_)))))))));exact eV 0 14 (pB b) (eO 1 15 [(2,0,1)] qF a (eV 2 16 (qP b 1) (eO 3 17 [(2,1,2)] (nv (ac x)) a (eV 4 18 (qP c 1) (eO 5 19 [(1,1,2)] (nv (ac y)) a (aj 6 20 a (fun _ _ a=>HP (ac x) (ac y) aM aM _ _ a.g) (fun _ _ a=>aj 7 21 a (fun _ _ a=>gc false ((ac x)+(ac y)) (by first|assumption|exact ax (Ko _ _) aM) _ _ a.g) (fun _ _ a=>ce a (fun _ _ a=>tP 8 0 0 (ic (cM false ((ac x)+(ac y)))) a (fun _ a=>tN (kX (a.ret [(0,0,3)] (iv (cM false ((ac x)+(ac y)))) (congrArg iv (by unfold cM ac at *;simp;omega))))))))))))))
theorem Cr (x y:Int)(e:(wds (ac x)).length<=1000000000)(l:(wds (ac y)).length<=1000000000)(f:(wds (ac x+ac y)).length<=1000000000)(z:av x=false)(k:av y=true)(u:ac y<=ac x)(w:World)(h:Hp)(g:G w h):CV 75 #[wX (.bool false) (ac x),wX (.bool true) (ac y)] w h (iv (x+y)):=by
 have a:=sS g;have j:=bg z;have p:=bK k;exact go Tryz.func75 [(0,wX qF (ac x)),(1,wX qT (ac y))] rfl (aD (lA 2 27 (wC qF (ac x)) a (fun b w2 H a=>lA 3 27 (wC qT (ac y)) a (fun d C D a=>lA 4 27 ([qF,uV 0,eS]) a (fun F I B a=>ag (ab a [.v (pB b),.o qF 2 0 1,.v (pB d),.o qT 1 0 1,.v qF] (ai (cK (cQ (ab a [.v (qP b 1),.o (nv (ac x)) 2 1 2,.v (qP d 1),.o (nv (ac y)) 1 1 2] (ak 27 a (BD (ac x) (ac y) oM aM aM _ _ a.g) (fun _ _ a=>lL a [.c,.v (nv ((ac x)-(ac y))),.v qT] (lA 5 25 ([uV 0,eS]) a (fun i _ _ a=>lP 0 0 (nc ((ac x)-(ac y))) a (fun _ a=>lL a ae (a7 (lL a ae (au (ab a [.v (pB b),.o qF 3 0 1,.o (nv ((ac x)-(ac y))) 0 0 2] (ak 34 a (gc false ((ac x)-(ac y)) (by first|assumption|exact ax (Ko _ _) aM) _ _ a.g) (fun _ _ a=>lP 1 0 (ic (cM false ((ac x)-(ac y)))) a (fun _ a=>af a [(1,0,3)] (iv (cM false ((ac x)-(ac y)))) (congrArg iv (by unfold cM ac at *;simp;omega))))))))))))))))))))))))
theorem Bv (x y:Int)(e:(wds (ac x)).length<=1000000000)(u:(wds (ac y)).length<=1000000000)(f:(wds (ac x+ac y)).length<=1000000000)(B:av x=false)(p:av y=true)(j:ac x<ac y)(w:World)(h:Hp)(g:G w h):CV 75 #[wX (.bool false) (ac x),wX (.bool true) (ac y)] w h (iv (x+y)):=by
 have a:=sS g;have l:=bg B;have z:=bK p;exact go Tryz.func75 [(0,wX qF (ac x)),(1,wX qT (ac y))] rfl (aD (lA 2 27 (wC qF (ac x)) a (fun d w2 I a=>lA 3 27 (wC qT (ac y)) a (fun b D F a=>lA 4 27 ([qF,uV 0,eS]) a (fun H J C a=>ag (ab a [.v (pB d),.o qF 2 0 1,.v (pB b),.o qT 1 0 1,.v qF] (ai (cK (cQ (ab a [.v (qP d 1),.o (nv (ac x)) 2 1 2,.v (qP b 1),.o (nv (ac y)) 1 1 2] (ak 27 a (Dz (ac x) (ac y) oM aM aM _ _ a.g) (fun _ _ a=>lL a [.c,.v (nv 0),.v qF] (lA 5 25 ([uV 0,eS]) a (fun k _ _ a=>lP 0 0 (nc 0) a (fun _ a=>lL a ae (a7 (lL a ae (ai (cK (ab a [.v (qP b 1),.o (nv (ac y)) 2 1 2,.v (qP d 1),.o (nv (ac x)) 3 1 2] (ak 40 a (BD (ac y) (ac x) oM aM aM _ _ a.g) (fun _ _ a=>lL a [.c,.v (nv ((ac y)-(ac x))),.v qT] (lA 7 25 ([uV 0,eS]) a (fun i _ _ a=>lP 0 0 (nc ((ac y)-(ac x))) a (fun _ a=>lL a ae (a7 (lL a [.v (pB b),.o qT 3 0 1,.o (nv ((ac y)-(ac x))) 0 0 2] (ak 46 a (gc true ((ac y)-(ac x)) (by first|assumption|exact ax (Ko _ _) aM) _ _ a.g) (fun _ _ a=>lP 2 0 (ic (cM true ((ac y)-(ac x)))) a (fun _ a=>af a [(2,0,3)] (iv (cM true ((ac y)-(ac x)))) (congrArg iv (by unfold cM ac at *;simp;omega))))))))))))))))))))))))))))))))
theorem C7 (x y:Int)(e:(wds (ac x)).length<=1000000000)(l:(wds (ac y)).length<=1000000000)(f:(wds (ac x+ac y)).length<=1000000000)(z:av x=true)(k:av y=false)(u:ac y<=ac x)(w:World)(h:Hp)(g:G w h):CV 75 #[wX (.bool true) (ac x),wX (.bool false) (ac y)] w h (iv (x+y)):=by
 have a:=sS g;have j:=bK z;have p:=bg k;exact go Tryz.func75 [(0,wX qT (ac x)),(1,wX qF (ac y))] rfl (aD (lA 2 27 (wC qT (ac x)) a (fun b w2 H a=>lA 3 27 (wC qF (ac y)) a (fun d C D a=>lA 4 27 ([qF,uV 0,eS]) a (fun F I B a=>ag (ab a [.v (pB b),.o qT 2 0 1,.v (pB d),.o qF 1 0 1,.v qF] (ai (cK (cQ (ab a [.v (qP b 1),.o (nv (ac x)) 2 1 2,.v (qP d 1),.o (nv (ac y)) 1 1 2] (ak 27 a (BD (ac x) (ac y) oM aM aM _ _ a.g) (fun _ _ a=>lL a [.c,.v (nv ((ac x)-(ac y))),.v qT] (lA 5 25 ([uV 0,eS]) a (fun i _ _ a=>lP 0 0 (nc ((ac x)-(ac y))) a (fun _ a=>lL a ae (a7 (lL a ae (au (ab a [.v (pB b),.o qT 3 0 1,.o (nv ((ac x)-(ac y))) 0 0 2] (ak 34 a (gc true ((ac x)-(ac y)) (by first|assumption|exact ax (Ko _ _) aM) _ _ a.g) (fun _ _ a=>lP 1 0 (ic (cM true ((ac x)-(ac y)))) a (fun _ a=>af a [(1,0,3)] (iv (cM true ((ac x)-(ac y)))) (congrArg iv (by unfold cM ac at *;simp;omega))))))))))))))))))))))))
theorem BR (x y:Int)(e:(wds (ac x)).length<=1000000000)(u:(wds (ac y)).length<=1000000000)(f:(wds (ac x+ac y)).length<=1000000000)(B:av x=true)(p:av y=false)(j:ac x<ac y)(w:World)(h:Hp)(g:G w h):CV 75 #[wX (.bool true) (ac x),wX (.bool false) (ac y)] w h (iv (x+y)):=by
 have a:=sS g;have l:=bK B;have z:=bg p;exact go Tryz.func75 [(0,wX qT (ac x)),(1,wX qF (ac y))] rfl (aD (lA 2 27 (wC qT (ac x)) a (fun d w2 I a=>lA 3 27 (wC qF (ac y)) a (fun b D F a=>lA 4 27 ([qF,uV 0,eS]) a (fun H J C a=>ag (ab a [.v (pB d),.o qT 2 0 1,.v (pB b),.o qF 1 0 1,.v qF] (ai (cK (cQ (ab a [.v (qP d 1),.o (nv (ac x)) 2 1 2,.v (qP b 1),.o (nv (ac y)) 1 1 2] (ak 27 a (Dz (ac x) (ac y) oM aM aM _ _ a.g) (fun _ _ a=>lL a [.c,.v (nv 0),.v qF] (lA 5 25 ([uV 0,eS]) a (fun k _ _ a=>lP 0 0 (nc 0) a (fun _ a=>lL a ae (a7 (lL a ae (ai (cK (ab a [.v (qP b 1),.o (nv (ac y)) 2 1 2,.v (qP d 1),.o (nv (ac x)) 3 1 2] (ak 40 a (BD (ac y) (ac x) oM aM aM _ _ a.g) (fun _ _ a=>lL a [.c,.v (nv ((ac y)-(ac x))),.v qT] (lA 7 25 ([uV 0,eS]) a (fun i _ _ a=>lP 0 0 (nc ((ac y)-(ac x))) a (fun _ a=>lL a ae (a7 (lL a [.v (pB b),.o qF 3 0 1,.o (nv ((ac y)-(ac x))) 0 0 2] (ak 46 a (gc false ((ac y)-(ac x)) (by first|assumption|exact ax (Ko _ _) aM) _ _ a.g) (fun _ _ a=>lP 2 0 (ic (cM false ((ac y)-(ac x)))) a (fun _ a=>af a [(2,0,3)] (iv (cM false ((ac y)-(ac x)))) (congrArg iv (by unfold cM ac at *;simp;omega))))))))))))))))))))))))))))))))
theorem Fy (x y:Int)(d:(wds (ac x)).length<=1000000000)(j:(wds (ac y)).length<=1000000000)(e:(wds (ac x+ac y)).length<=1000000000)(l:av x=true)(i:av y=true)(w:World)(h:Hp)(g:G w h):CV 75 #[wX (.bool true) (ac x),wX (.bool true) (ac y)] w h (iv (x+y)):=by
 have a:=sS g;have f:=bK l;have k:=bK i;refine go Tryz.func75 [(0,wX qT (ac x)),(1,wX qT (ac y))] rfl (aD (lA 2 27 (wC qT (ac x)) a (fun b w2 C a=>lA 3 27 (wC qT (ac y)) a (fun c u z a=>lA 4 27 ([qF,uV 0,eS]) a (fun B D p a=>ag (ab a [.v (pB b),.o qT 2 0 1,.v (pB c),.o qT 1 0 1,.v qT] (au (cQ (cR 8 [] mixed a ao ?_)))))))));exact eV 0 14 (pB b) (eO 1 15 [(2,0,1)] qT a (eV 2 16 (qP b 1) (eO 3 17 [(2,1,2)] (nv (ac x)) a (eV 4 18 (qP c 1) (eO 5 19 [(1,1,2)] (nv (ac y)) a (aj 6 20 a (fun _ _ a=>HP (ac x) (ac y) aM aM _ _ a.g) (fun _ _ a=>aj 7 21 a (fun _ _ a=>gc true ((ac x)+(ac y)) (by first|assumption|exact ax (Ko _ _) aM) _ _ a.g) (fun _ _ a=>ce a (fun _ _ a=>tP 8 0 0 (ic (cM true ((ac x)+(ac y)))) a (fun _ a=>tN (kX (a.ret [(0,0,3)] (iv (cM true ((ac x)+(ac y)))) (congrArg iv (by unfold cM ac at *;simp;omega))))))))))))))
theorem Fq (x y:Int)(f:(wds (ac x)).length<=1000000000)(k:(wds (ac y)).length<=1000000000)(i:(wds (ac x*ac y)).length<=1000000000)(e:av x=false)(d:av y=false)(w:World)(h:Hp)(g:G w h):CV 86 #[wX (.bool false) (ac x),wX (.bool false) (ac y)] w h (iv (x*y)):=by
 have a:=sS g;have j:=bg e;have l:=bg d;refine go Tryz.func86 [(0,wX qF (ac x)),(1,wX qF (ac y))] rfl (aD (lA 2 27 (wC qF (ac x)) a (fun c w2 B a=>lA 3 27 (wC qF (ac y)) a (fun b p u a=>lA 4 27 ([qF,uV 0,eS]) a (fun z C o a=>ag (cR 11 [] mixed a ao ?_))))));exact eV 0 5 (pB c) (eO 1 6 [(2,0,1)] qF a (eV 2 7 (pB b) (eO 3 8 [(1,0,1)] qF a (eV 4 9 qF (eV 5 10 (qP c 1) (eO 6 11 [(2,1,2)] (nv (ac x)) a (eV 7 12 (qP b 1) (eO 8 13 [(1,1,2)] (nv (ac y)) a (aj 9 14 a (fun _ _ a=>rv (ac x) (ac y) aM aM _ _ a.g) (fun _ _ a=>aj 10 15 a (fun _ _ a=>gc false ((ac x)*(ac y)) aM _ _ a.g) (fun _ _ a=>ce a (fun _ _ a=>tP 11 0 0 (ic (cM false ((ac x)*(ac y)))) a (fun _ a=>tN (kX (a.ret [(0,0,3)] (iv (cM false ((ac x)*(ac y)))) (by rw[<-m8 x y,e,d];rfl))))))))))))))))
theorem Ej (x y:Int)(f:(wds (ac x)).length<=1000000000)(k:(wds (ac y)).length<=1000000000)(i:(wds (ac x*ac y)).length<=1000000000)(e:av x=false)(d:av y=true)(w:World)(h:Hp)(g:G w h):CV 86 #[wX (.bool false) (ac x),wX (.bool true) (ac y)] w h (iv (x*y)):=by
 have a:=sS g;have j:=bg e;have l:=bK d;refine go Tryz.func86 [(0,wX qF (ac x)),(1,wX qT (ac y))] rfl (aD (lA 2 27 (wC qF (ac x)) a (fun c w2 B a=>lA 3 27 (wC qT (ac y)) a (fun b p u a=>lA 4 27 ([qF,uV 0,eS]) a (fun z C o a=>ag (cR 11 [] mixed a ao ?_))))));exact eV 0 5 (pB c) (eO 1 6 [(2,0,1)] qF a (eV 2 7 (pB b) (eO 3 8 [(1,0,1)] qT a (eV 4 9 qT (eV 5 10 (qP c 1) (eO 6 11 [(2,1,2)] (nv (ac x)) a (eV 7 12 (qP b 1) (eO 8 13 [(1,1,2)] (nv (ac y)) a (aj 9 14 a (fun _ _ a=>rv (ac x) (ac y) aM aM _ _ a.g) (fun _ _ a=>aj 10 15 a (fun _ _ a=>gc true ((ac x)*(ac y)) aM _ _ a.g) (fun _ _ a=>ce a (fun _ _ a=>tP 11 0 0 (ic (cM true ((ac x)*(ac y)))) a (fun _ a=>tN (kX (a.ret [(0,0,3)] (iv (cM true ((ac x)*(ac y)))) (by rw[<-m8 x y,e,d];rfl))))))))))))))))
theorem Fh (x y:Int)(f:(wds (ac x)).length<=1000000000)(k:(wds (ac y)).length<=1000000000)(i:(wds (ac x*ac y)).length<=1000000000)(e:av x=true)(d:av y=false)(w:World)(h:Hp)(g:G w h):CV 86 #[wX (.bool true) (ac x),wX (.bool false) (ac y)] w h (iv (x*y)):=by
 have a:=sS g;have j:=bK e;have l:=bg d;refine go Tryz.func86 [(0,wX qT (ac x)),(1,wX qF (ac y))] rfl (aD (lA 2 27 (wC qT (ac x)) a (fun c w2 B a=>lA 3 27 (wC qF (ac y)) a (fun b p u a=>lA 4 27 ([qF,uV 0,eS]) a (fun z C o a=>ag (cR 11 [] mixed a ao ?_))))));exact eV 0 5 (pB c) (eO 1 6 [(2,0,1)] qT a (eV 2 7 (pB b) (eO 3 8 [(1,0,1)] qF a (eV 4 9 qT (eV 5 10 (qP c 1) (eO 6 11 [(2,1,2)] (nv (ac x)) a (eV 7 12 (qP b 1) (eO 8 13 [(1,1,2)] (nv (ac y)) a (aj 9 14 a (fun _ _ a=>rv (ac x) (ac y) aM aM _ _ a.g) (fun _ _ a=>aj 10 15 a (fun _ _ a=>gc true ((ac x)*(ac y)) aM _ _ a.g) (fun _ _ a=>ce a (fun _ _ a=>tP 11 0 0 (ic (cM true ((ac x)*(ac y)))) a (fun _ a=>tN (kX (a.ret [(0,0,3)] (iv (cM true ((ac x)*(ac y)))) (by rw[<-m8 x y,e,d];rfl))))))))))))))))
theorem ED (x y:Int)(f:(wds (ac x)).length<=1000000000)(k:(wds (ac y)).length<=1000000000)(i:(wds (ac x*ac y)).length<=1000000000)(e:av x=true)(d:av y=true)(w:World)(h:Hp)(g:G w h):CV 86 #[wX (.bool true) (ac x),wX (.bool true) (ac y)] w h (iv (x*y)):=by
 have a:=sS g;have j:=bK e;have l:=bK d;refine go Tryz.func86 [(0,wX qT (ac x)),(1,wX qT (ac y))] rfl (aD (lA 2 27 (wC qT (ac x)) a (fun c w2 B a=>lA 3 27 (wC qT (ac y)) a (fun b p u a=>lA 4 27 ([qF,uV 0,eS]) a (fun z C o a=>ag (cR 11 [] mixed a ao ?_))))));exact eV 0 5 (pB c) (eO 1 6 [(2,0,1)] qT a (eV 2 7 (pB b) (eO 3 8 [(1,0,1)] qT a (eV 4 9 qF (eV 5 10 (qP c 1) (eO 6 11 [(2,1,2)] (nv (ac x)) a (eV 7 12 (qP b 1) (eO 8 13 [(1,1,2)] (nv (ac y)) a (aj 9 14 a (fun _ _ a=>rv (ac x) (ac y) aM aM _ _ a.g) (fun _ _ a=>aj 10 15 a (fun _ _ a=>gc false ((ac x)*(ac y)) aM _ _ a.g) (fun _ _ a=>ce a (fun _ _ a=>tP 11 0 0 (ic (cM false ((ac x)*(ac y)))) a (fun _ a=>tN (kX (a.ret [(0,0,3)] (iv (cM false ((ac x)*(ac y)))) (by rw[<-m8 x y,e,d];rfl))))))))))))))))
theorem Hi (x y:Int)(b:(wds (ac x)).length+(wds (ac y)).length<=999999999)(w:World)(h:Hp)(g:G w h):CV 75 #[iv x,iv y] w h (iv (x+y)):=by
 have a:(wds (ac x+ac y)).length<=1000000000:=e6 kz oM
 rcases hx:av x with _|_<;>rcases hy:av y with _|_<;>rw[gQ hx,gQ hy]
 ·exact F3 x y oM oM a hx hy w h g
 ·rcases ep (ac x) (ac y) with hc|hc
  ·exact Bv x y oM oM a hx hy hc w h g
  ·exact Cr x y oM oM a hx hy hc w h g
 ·rcases ep (ac x) (ac y) with hc|hc
  ·exact BR x y oM oM a hx hy hc w h g
  ·exact C7 x y oM oM a hx hy hc w h g
 ·exact Fy x y oM oM a hx hy w h g
theorem Ch (x y:Int)(b:(wds (ac x)).length+(wds (ac y)).length<=1000000000)(w:World)(h:Hp)(g:G w h):CV 86 #[iv x,iv y] w h (iv (x*y)):=by
 have a:(wds (ac x*ac y)).length<=1000000000:=e6 dD oM
 rcases hx:av x with _|_<;>rcases hy:av y with _|_<;>rw[gQ hx,gQ hy]
 ·exact Fq x y oM oM a hx hy w h g
 ·exact Ej x y oM oM a hx hy w h g
 ·exact Fh x y oM oM a hx hy w h g
 ·exact ED x y oM oM a hx hy w h g
theorem Aj (n:Nat)(V:(wds n).length<=1000000000)(w:World)(h:Hp)(g:G w h):CR 187 #[nv n] w h (fun v h1=>∃ A,v=.slice A ((nb n+7)/8) ((nb n+7)/8)/\SlO 1 nw 0 h1 A (fT n ((nb n+7)/8))):=by
 have c:=sS g;have X:=mF n;have hwl:=l7 n;refine go Tryz.func187 [(0,nv n)] rfl (aD (lA 1 25 (nc n) c (fun F w2 h3 c=>lL c ae (a7 (lL c [.o (nv n) 0 0 2] (ak 8 c (fV n V _ _ c.g) (fun w4 h5 c=>bM 9 ((nb n:Nat)+7) ((nb n)+7) (lV 10 (nV (((nb n)+7)/8)) ?_ (hr:=ba (dZ (t:=3) (u:=3) (x:=.tmp 9) (y:=.const (iV 8)) (k:=.i64) (a:=(((nb n)+7:Nat):Int)) (b:=(8:Int)) kR kR kR oM _) (dV ((nb n)+7) 8 oM))))))))));refine lL c ae (a7 (lL c ae (lK 12 5 (((nb n)+7)/8:Nat) 1 1 (.int .u8 0) nw 0 c (fun p w7 h8 c=>?_))));have J:(y2 (((nb n)+7)/8:Nat) 0).length=(((nb n)+7)/8:Nat):=by simp
 refine lL c ae (a7 (lL c [.o (nv n) 1 0 2] (lC 14 c (gl n oM _ _ c.g) ?_)));rintro _ _ zd c ⟨e,C,rfl,Q,D⟩;replace c:=c.aS D;refine lL c ae (ag (ab c aN (be ?_)));refine bU _ (CG.loop (fun H Γ W=>∃ (i:Nat)(l:List Nat)(K:Hp),H=((nb n+7)/8)-i/\Γ=[(2,sZ),(3,nV (((nb n)+7)/8)),(4,qS (sB p) (((nb n)+7)/8:Nat) (((nb n)+7)/8:Nat)),(5,qS e ((wds n).length) C),(15,nV (((nb n)+7)/8)),(16,nV i)]/\SS w h W K [⟨p,5,(l).flatMap nw⟩,⟨F,25,nc n⟩] [] [fun K=>SlO 1 ar 0 K e (wds n)]/\i<=((nb n+7)/8)/\l.length=((nb n+7)/8)/\(∀ j,j<i->l.getD (((nb n+7)/8)-1-j) 0=n/256^j%256)) _ ⟨0,y2 (((nb n)+7)/8:Nat) 0,zd,rfl,rfl,c.to _ _,JU _,J,(fun j M=>absurd M oM)⟩ ?_);rintro _ _ _ ⟨i,l,ze,O,rfl,c,hi,z,U⟩;have Z:=oS n (i/8);refine aD ?_;cases za:(decide ((i:Int)<((((nb n)+7)/8:Nat):Int)))
 .
  have zb:=oF za;refine lB 17 za (ag (dv (CG.exit ?_)))
  show CG _ _ _ _ _ _ _ _
  refine ab c aN (lN (kX ?_));have him:i=((nb n+7)/8):=by omega
  have I:l=fT n ((nb n+7)/8):=sU z (fun j M=>U j oM);rw[I] at c
  obtain ⟨_,c,B,S,L⟩:=c.pub 0;replace c:=(c.to [⟨F,25,nc n⟩] []).aS (SlO.of_flat (sz:=1) (f:=nw) (d:=0) (b:=p) (o:=0) (l:=fT n ((nb n+7)/8)) (fun _=>rfl) B);exact c.ret [] (qS (sB p) (((nb n)+7)/8:Nat) (((nb n)+7)/8:Nat)) (⟨sB p,rfl,c.f.1⟩)
 have zb:=oT za;refine lB 17 za (ag (bT (cK (cQ (kZ (ab c aN (lN (kQ (lL c aN (bM 21 ((((nb n)+7)/8:Nat)-1) ((((nb n)+7)/8:Nat)-1) ?_))))))))));refine lL c ae (bM 23 (((((nb n)+7)/8:Nat)-1:Nat)-(i:Nat)) (((((nb n)+7)/8:Nat)-1:Nat)-i) ?_);refine lL c aN (lV 26 (nV (i/8)) ?_ (hr:=ba (dZ (t:=3) (u:=3) (x:=.tmp 25) (y:=.const (iV 8)) (k:=.i64) (a:=(i:Int)) (b:=(8:Int)) kR kR kR oM _) (dV i 8 oM)));refine lX 27 e ((wds n).length) C 1 (i/8:Nat) (i/8) ((c.f.1).ok oM) (lH 28 (mV ((wds n).getD (i/8) 0)) c ((c.f.1).el (i/8) oM) (lL c ae (lV 30 (nV (i%8)) ?_ (hr:=ba (gn (t:=3) (u:=3) (x:=.tmp 29) (y:=.const (iV 8)) (k:=.i64) (a:=(i:Int)) (b:=(8:Int)) kR kR kR oM _) (dY i 8)))));refine bM 31 (8*(i%8:Nat)) (8*(i%8)) (lV 32 (mV (((wds n).getD (i/8) 0)/2^(8*(i%8)))) ?_ (hr:=ig (t:=23) (u:=3) (x:=.tmp 28) (y:=.tmp 31) (ky:=.i64) (a:=((wds n).getD (i/8) 0)) (n:=(8*(i%8))) kR kR kR oM _));refine lV 33 (.int .u8 ((wds n).getD (i/8) 0/2^(8*(i%8))%256:Nat)) ?_ (hr:=ba (n:=IntKind.wrap .u8 (((wds n).getD (i/8) 0/2^(8*(i%8)):Nat):Int)) kR (BB _));refine lX 34 (sB p) (((nb n)+7)/8:Nat) (((nb n)+7)/8:Nat) 1 (((((nb n)+7)/8:Nat)-1:Nat)-i:Nat) (((((nb n)+7)/8:Nat)-1:Nat)-i:Nat) rfl (lW 0 l nw 1 (((((nb n)+7)/8:Nat)-1:Nat)-i:Nat) ((wds n).getD (i/8) 0/2^(8*(i%8))%256:Nat) c oM (fun _ c=>?_));have zc:((l).set (((((nb n)+7)/8:Nat)-1:Nat)-i:Nat) ((wds n).getD (i/8) 0/2^(8*(i%8))%256:Nat)).length=(((nb n)+7)/8:Nat):=by rw[JJ];exact z
 replace c:=c.to [⟨p,5,((l).set (((((nb n)+7)/8:Nat)-1:Nat)-i:Nat) ((wds n).getD (i/8) 0/2^(8*(i%8))%256:Nat)).flatMap nw⟩,⟨F,25,nc n⟩] [];refine lN (kQ (bM 35 ((i:Nat)+1) (i+1) ?_));refine lL c ae (lD ?_);intro a_ Y;refine ⟨_,_,?_,⟨i+1,(l).set (((((nb n)+7)/8:Nat)-1:Nat)-i:Nat) ((wds n).getD (i/8) 0/2^(8*(i%8))%256:Nat),ze,rfl,rfl,c.to _ _,oM,zc,(gY z oM U (xa n i))⟩,Y.to _ kR⟩
 omega
theorem vP (n m:Nat)(A:Z9)(c:Nat)(hc:m<=c)(hm:m<=10000000000)(Z:n<256^m)(w:World)(h:Hp)(g:G w h)(X:SlO 1 nw 0 h A (fT n m)):CV 96 #[.slice A m c] w h (nv n):=by
 have e:=((sS g).aS X);have U:=jz n m;refine go Tryz.func96 [(0,qS A m c)] rfl (aD (lA 2 25 ([uV 0,eS]) e (fun z w2 h3 e=>a7 (lL e [.c,.v (nV m)] (bM 7 ((m:Nat)+7) (m+7) ?_)))));refine lV 8 (nV ((m+7)/8)) ?_ (hr:=ba (dZ (t:=3) (u:=3) (x:=.tmp 7) (y:=.const (iV 8)) (k:=.i64) (a:=((m+7:Nat):Int)) (b:=(8:Int)) kR kR kR oM _) (dV (m+7) 8 oM));refine lK 9 23 ((m+7)/8) 1 8 (uV 0) ar 0 e (fun j w5 h6 e=>?_);have K:(y2 ((m+7)/8) 0).length=((m+7)/8):=by simp
 refine lL e ae (ag (ab e [.c,.v (nV m),.c] (be ?_)));refine bU _ (CG.loop (fun I Γ S=>∃ (i:Nat)(l:List Nat)(L:Hp),I=m-i/\Γ=[(0,qS A m c),(2,pB z),(3,qS (sB j) ((m+7)/8) ((m+7)/8)),(11,nV m),(12,nV i)]/\SS w h S L [⟨j,23,(l).flatMap ar⟩,⟨z,25,[uV 0,eS]⟩] [] [fun L=>SlO 1 nw 0 L A (fT n m)]/\i<=m/\l.length=(m+7)/8/\Wd l/\aE l=n%256^i) _ ⟨0,y2 ((m+7)/8) 0,h6,rfl,rfl,e.to _ _,JU _,K,Wd.rep _,(by show aq _ _=_;rw[fZ,J9,Nat.mod_one])⟩ ?_);rintro _ _ w8 ⟨i,l,h9,M,rfl,e,hi,H,B,inv⟩;have hbi:=kK n m (m-1-i);refine aD ?_;cases za:(decide ((i:Int)<(m:Int)))
 .
  have zb:=oF za;refine lB 13 za (ag (dv (CG.exit ?_)))
  show CG _ _ _ _ _ _ _ _
  refine aD ?_;have J:i=m:=by omega
  have V:aE l=n:=by rw[inv,J];exact y4 Z
  obtain ⟨_,e,p,Q,O⟩:=e.pub 0;replace e:=(e.to [⟨z,25,[uV 0,eS]⟩] []).aS (SlO.of_flat (sz:=1) (f:=ar) (d:=0) (b:=j) (o:=0) (l:=l) (fun _=>rfl) p);exact lL e ae (ak 37 e (dI (sB j) ((m+7)/8) (l) ((m+7)/8) (n) (by first|rfl|assumption|(simp;done)|(simp;omega)|omega) (B) (V) sM sM _ _ e.g e.f.1) (fun _ _ e=>lP 0 0 (nc n) e (fun _ e=>af e [(0,0,2)] (nv n) rfl)))
 have zb:=oT za;refine lB 13 za (ag (bT (cK (cQ (kZ (ab e aN (lN (cR 19 [] mixed e ao ?_))))))));refine eV 0 15 (qS (sB j) ((m+7)/8) ((m+7)/8)) (eV 1 16 (nV i) (eV 2 17 (nV (i/8)) ?_ (hv:=fun _=>ba (dZ (t:=3) (u:=3) (x:=.tmp 16) (y:=.const (iV 8)) (k:=.i64) (a:=(i:Int)) (b:=(8:Int)) kR kR kR oM _) (dV i 8 oM))));refine eX 3 18 (sB j) ((m+7)/8) ((m+7)/8) 1 (i/8:Nat) (i/8) rfl (eQ 4 19 0 l ar 1 0 (i/8) (mV ((l).getD (i/8) 0)) e oM (eV 5 20 (qS A m c) (eV 6 21 (qS A m c) (eV 7 22 (nV m) (nu 8 23 ((m:Nat)-1) (m-1) (eV 9 24 (nV i) (nu 10 25 ((m-1:Nat)-(i:Nat)) ((m-1)-i) (eX 11 26 A m c 1 ((m-1)-i:Nat) ((m-1)-i) ((e.f.1).ok oM) (eH 12 27 (.int .u8 ((fT n m).getD ((m-1)-i) 0:Nat)) e ((e.f.1).el ((m-1)-i) oM) (eV 13 28 (mV ((fT n m).getD ((m-1)-i) 0)) ?_ (hv:=fun _=>rU ((((fT n m).getD ((m-1)-i) 0:Nat):Int)) kR (bX oM oM))))))))))));refine eV 14 29 (nV i) (eV 15 30 (nV (i%8)) ?_ (hv:=fun _=>ba (gn (t:=3) (u:=3) (x:=.tmp 29) (y:=.const (iV 8)) (k:=.i64) (a:=(i:Int)) (b:=(8:Int)) kR kR kR oM _) (dY i 8)));refine nu 16 31 (8*(i%8:Nat)) (8*(i%8)) (eV 17 32 (mV (((fT n m).getD ((m-1)-i) 0:Nat)*2^(8*(i%8))%18446744073709551616)) ?_ (hv:=fun _=>iO (t:=23) (u:=3) (x:=.tmp 28) (y:=.tmp 31) (ky:=.i64) (a:=((fT n m).getD ((m-1)-i) 0:Nat)) (n:=(8*(i%8))) kR kR kR _));obtain ⟨C,D,F⟩:=tw oM inv (show (fT n m).getD (m-1-i) 0=n/256^i%256 by rw[i5 n m _ oM,show m-1-(m-1-i)=i by omega]);have Y:=B.get (i/8);refine eV 18 33 (mV (l.getD (i/8) 0+(fT n m).getD (m-1-i) 0*2^(8*(i%8)))) ?_ (hv:=fun _=>ba (j5 (t:=23) (u:=23) (x:=.tmp 19) (y:=.tmp 32) (a:=((l).getD (i/8) 0)) (b:=(((fT n m).getD ((m-1)-i) 0:Nat)*2^(8*(i%8))%18446744073709551616:Nat)) kR kR kR oM oM _) (by rw[C]));refine ce e (fun _ zd e=>tX 19 34 (sB j) ((m+7)/8) ((m+7)/8) 1 (i/8:Nat) (i/8) rfl (tW 20 0 l ar 1 (i/8) (l.getD (i/8) 0+(fT n m).getD (m-1-i) 0*2^(8*(i%8)):Nat) e oM (fun _ e=>?_)));have zc:((l).set (i/8) (l.getD (i/8) 0+(fT n m).getD (m-1-i) 0*2^(8*(i%8)):Nat)).length=((m+7)/8):=by rw[JJ];exact H
 replace e:=e.to [⟨j,23,((l).set (i/8) (l.getD (i/8) 0+(fT n m).getD (m-1-i) 0*2^(8*(i%8)):Nat)).flatMap ar⟩,⟨z,25,[uV 0,eS]⟩] [];refine tN (kQ (bM 35 ((i:Nat)+1) (i+1) ?_));refine lL e ae (lD ?_);intro a_ W;refine ⟨_,_,?_,⟨i+1,(l).set (i/8) (l.getD (i/8) 0+(fT n m).getD (m-1-i) 0*2^(8*(i%8)):Nat),zd,rfl,rfl,e.to _ _,oM,zc,(B.set _ D),F⟩,W.to _ kR⟩
 omega
theorem Ee (n k:Nat)(y:(wds n).length<=1000000000)(hk:k<=65536)(w:World)(h:Hp)(g:G w h):CV 158 #[nv n,nV k] w h (nv (n*2^k)):=by
 have a:=sS g;refine go Tryz.func158 [(0,nv n),(1,nV k)] rfl (aD (lA 2 25 (nc n) a (fun J w2 M a=>lA 4 25 ([uV 0,eS]) a (fun H I L a=>a7 (lL a ae (lV 6 (nV k) ?_ (hr:=ba (n:=if (65536:Int)<(k:Int) then (65536:Int) else (k:Int)) kR (if_neg oM))))))));refine lV 7 (nV k) ?_ (hr:=ba (n:=if (k:Int)>(-65536:Int) then (k:Int) else (-65536:Int)) kR (if_pos oM));refine lL a ae (ag (ab a ae ?_));have ⟨c,u⟩:=dF (p:=(k:Int)<(0:Int)) oM;refine lB 9 c (ai (cK (ab a [.o (nv n) 1 0 2] (lC 17 a (gl n oM _ _ a.g) ?_))));rintro _ K F a ⟨j,i,rfl,l,d⟩;replace a:=a.aS d;refine lL a ae (lC 19 a (xe j i (wds n) (Wd.wds n) y k oM _ _ a.g a.f.1) ?_);rintro _ _ _ a ⟨D,B,z,rfl,x,C,e,b,hz⟩;replace a:=a.aS hz;exact ak 20 a (dI D B (z) z.length ((n*2^k)) (by first|rfl|assumption|(simp;done)|(simp;omega)|omega) (e) (by rw[b,aI]) sM sM _ _ a.g a.f.1) (fun _ _ a=>lP 0 0 (nc (n*2^k)) a (fun _ a=>af a [(0,0,2)] (nv (n*2^k)) rfl))
section
variable {P:Program}{Γ:cH}{o:Oper}
theorem GE {t e:TypeId}{x ix:Operand}{b off sz len:Nat}{i:Int}{kk:IntKind}(k:Nat)(l:o.op=.indexAddr t x ix)(u:ev Γ x=.pointer (some ⟨b,off,none⟩))(hi:ev Γ ix=.int kk i)
    (h:P.underlying t=some (.array len e))(f:(P.info? e).map (·.size)=some sz)(hk:i=k)(p:k<len)(w:World) :
    (execOp (ev Γ) o).run P w=.ok (.value (.pointer (some ⟨b,off+k*sz,none⟩))) w:=by
  subst hk
  unfold execOp
  simp only[l]
  rw[u,hi];have c:P.elem t=e:=by unfold Program.elem;rw[h]
  have d:P.arrayLen t=len:=by unfold Program.arrayLen;rw[h]
  have h1:=run_indexAt_array (P:=P) w t ⟨b,off,none⟩ kk (k:Int) (by rw[c,d];exact h);rw[d,if_pos ⟨by omega,by omega⟩,c] at h1
  have j:(sizeOf e).run P w=.ok sz w:=by
    cases a:P.info? e with
    | none=>rw[a] at f;cases f
    | some i =>
      rw[a] at f
      simp at f
      simp[sizeOf,typeInfo,a,f]
  rw[j] at h1
  simp[h1,Result.andThen,Addr.add]
end
def Tz (n k m:Nat):Prop:=n=2^k*m/\m%2=1
theorem F9 {x:Nat}(h0:x≠0)(h:x<18446744073709551616):∃ m,Tz x (Lib.ctz 64 x) m/\Lib.ctz 64 x<64:=by
 unfold Lib.ctz
 rw[if_neg h0];obtain ⟨m,e,a⟩:=Lib.ctzFrom_spec 64 x oM h;exact ⟨2*m+1,⟨e,by omega⟩,a⟩
theorem Tz.odd_pos {n k m:Nat}(h:Tz n k m):0<m:=by have:=h.2;omega
theorem Tz.word {n i x k m r:Nat}(e:n=18446744073709551616^i*(x+18446744073709551616*r))(t:Tz x k m)(hk:k<64):Tz n (64*i+k) (m+2^(64-k)*r):=by
 obtain ⟨b,c⟩:=t;refine ⟨?_,?_⟩
 ·have a:(18446744073709551616:Nat)=2^k*2^(64-k):=by rw[<-Jw,show k+(64-k)=64 by omega]
  have e1:(18446744073709551616:Nat)^i=2^(64*i):=by rw[Nat.pow_mul]
  rw[e,e1,b]
  conv=>lhs;rw[a]
  rw[Jw,Ft (2^k),<-D1,<-Ft]
 ·obtain ⟨j,hj⟩:∃ j,64-k=j+1:=⟨63-k,by omega⟩
  rw[hj,B2,Az (2^j) 2,Ft]
  omega
theorem Tz.uniq {n k m c f:Nat}(a:Tz n k m)(b:Tz n c f):k=c/\m=f:=by
 obtain ⟨j,l⟩:=a;obtain ⟨i,u⟩:=b
 have key:∀ {k m c f:Nat},2^k*m=2^c*f->m%2=1->c<=k:=fun {k m c f} e o=>by
  rcases ep k c with h|h
  ·exfalso
   obtain ⟨d,rfl⟩:∃ d,c=k+(d+1):=⟨c-k-1,by omega⟩;rw[Jw,Ft] at e
   have e2:=Kp (H1 k) e;rw[B2,Az (2^d) 2,Ft] at e2
   omega
  ·exact h
 have h1:=key (j.symm.trans i) l;have x:=key (i.symm.trans j) u;have p:k=c:=by omega
 subst p;exact ⟨rfl,Kp (H1 k) (j.symm.trans i)⟩
theorem px {x y:Nat}(b:y%2=1):Kq (2*x) y=Kq x y:=by
 have a:Nat.Coprime 2 y:=by
  unfold Nat.Coprime
  rw[Nat.gcd_rec,b];rfl
 exact a.gcd_mul_left_cancel x
theorem fF {x y:Nat}(a:y%2=1):∀ k,Kq (2^k*x) y=Kq x y
  | 0=>by simp
  | k+1=>by
    rw[B2,Az (2^k) 2,Ft,px a];exact fF a k
theorem vT {x y k l m n:Nat}(a:Tz x k m)(b:Tz y l n):Kq x y=Kq m n*2^min k l:=by
 obtain ⟨c,e⟩:=a;obtain ⟨f,i⟩:=b;subst c f
 rcases Kr k l with h|h
 ·rw[Ga h]
  obtain ⟨d,rfl⟩:∃ d,l=k+d:=⟨l-k,by omega⟩;rw[Jw,Ft,Ks,Kb m,fF e,Kb n,Az]
 ·rw[JO h]
  obtain ⟨d,rfl⟩:∃ d,k=l+d:=⟨k-l,by omega⟩;rw[Jw,Ft,Ks,fF i,Az]
theorem tm {x y k m:Nat}(b:y<x)(a:y%2=1)(t:Tz (x-y) k m):Kq m y=Kq x y:=by
 rw[<-fF a k,<-t.1];have e:=Nat.gcd_add_self_left (m:=y) (n:=x-y);rw[show x-y+y=x by omega] at e
 exact e.symm
theorem SlO.win {α:Type}{f:α->List Value}{d:α}{h:Hp}{b:Nat}{l:List α}(hf:∀ x,(f x).length=1)(sg:Seg h b 0 (l.flatMap f))(o n:Nat):SlO 1 f d h (some ⟨b,o,none⟩) ((l.drop o).take n):=by
  have a:=sg.part o ((l.drop o).take n).length;rw[yW] at a
  have e:∀ (l:List α) (o n:Nat),((l.flatMap f).drop o).take ((l.drop o).take n).length=((l.drop o).take n).flatMap f:=by
    have e1:∀ (l:List α),(l.flatMap f).length=l.length:=fun l=>by
      induction l with
      | nil=>rfl
      | cons x l ih=>rw[yJ,List.length_append,hf,ih,List.length_cons];omega
    have c:∀ (l:List α) (o:Nat),(l.flatMap f).drop o=(l.drop o).flatMap f:=fun l=>by
      induction l with
      | nil=>intro o;simp
      | cons x l ih =>
        intro o;cases o with
        | zero=>rfl
        | succ o =>
          rw[yJ,List.drop_append,hf,yT (by rw[hf];omega),List.nil_append,List.drop_succ_cons,JM];exact ih o
    have et:∀ (l:List α) (n:Nat),(l.flatMap f).take n=(l.take n).flatMap f:=fun l=>by
      induction l with
      | nil=>intro n;simp
      | cons x l ih =>
        intro n;cases n with
        | zero=>rfl
        | succ n =>
          rw[yJ,List.take_append,hf,JF (by rw[hf];omega),List.take_succ_cons,yJ,JM,ih n]
    intro l o n;rw[c,et,A2]
    congr 1
    rcases Kr n (l.drop o).length with h|h
    . rw[Ga h]
    . rw[JO h,yN,JF h]
  rw[e] at a
  exact SlO.of_flat hf a
def Tab (h:Hp):Prop:=Seg h 3 0 (Lib.deBruijn64tab.map fun k=>Value.int .u8 ((k:Nat):Int))
theorem Tab.gw {h h':Hp}(t:Tab h)(u:Gw h h'):Tab h':=Seg.gw t u
theorem SS.aWt {w0 w:World}{h0 h:Hp}{B:List Bx}{R:List Rw}{F:List (Hp->Prop)}(s:SS w0 h0 w h B R F)(p:Tab h):SS w0 h0 w h B R ((fun h=>Tab h)::F):=s.add (K:=fun h=>Tab h) p
theorem Tab.at {h:Hp}(t:Tab h){k i:Nat}(e:i<64/\Lib.deBruijn64tab.getD i 0=k):Seg h 3 i [.int .u8 ((k:Nat):Int)]:=by
 have a:=Seg.part t i 1;obtain ⟨hi,rfl⟩:=e;rw[yW] at a
 have b:i<Lib.deBruijn64tab.length:=by show i<64;exact hi
 have e1:((Lib.deBruijn64tab.map fun k=>Value.int .u8 ((k:Nat):Int)).drop i).take 1=[.int .u8 ((Lib.deBruijn64tab.getD i 0:Nat):Int)]:=by
  rw[List.drop_eq_getElem_cons (by simpa using b)]
  simp[b]
 rw[e1] at a
 exact a
theorem Ig {s:Result Next}{b z:Nat}{w:World}(h:s=.ok (.value (.pointer (some ⟨b,0+z*1,none⟩))) w):s=.ok (.value (.pointer (some ⟨b,z,none⟩))) w:=by rw[h,JN,yW]
theorem AH {l:List Nat}(a:Wd l)(b:l.length<=(wds (aE l)).length):wds (aE l)=l:=by
 have e:=pH a;have h1:(wds (aE l)).length=min (tl l l.length) l.length:=by rw[e,A2]
 have c:=jf l l.length;rw[e,JF oM]
theorem IM {l:List Nat}(a:Wd l):aE l<256^(8*l.length):=by
 have:=cC a;rw[Nat.pow_mul];exact this
theorem Fb {a b:Nat}(h:wds a=wds b):a=b:=by rw[<-aI a,<-aI b,h]
theorem xM {l:List Nat}{i:Nat}(h:i<l.length)(h0:l.getD i 0=0){n:Nat}(inv:n=18446744073709551616^i*aq 18446744073709551616 (l.drop i)):n=18446744073709551616^(i+1)*aq 18446744073709551616 (l.drop (i+1)):=by
 rw[inv,fN _ h,h0,yW,B2,Ft]
theorem Hn (x:Nat)(o:x≠0)(C:x<18446744073709551616)(w:World)(h:Hp)(g:G w h)(F:Tab h):CV 188 #[mV x] w h (nV (Lib.ctz 64 x)):=by
 have d:=((sS g).add (K:=fun D=>Tab D) F);obtain ⟨j,hk⟩:=Lib.lowest_bit 64 x o C;have c:=Lib.deBruijn64_at _ hk
 generalize Lib.ctz 64 x=k at *
 generalize hp:2^k=p at *
 obtain ⟨y,hy⟩:∃ y,p*285870213051353865%18446744073709551616=y:=⟨_,rfl⟩;rw[hy] at c
 obtain ⟨z,hz⟩:∃ z,y/288230376151711744=z:=⟨_,rfl⟩;rw[hz] at c
 refine go Tryz.func188 [(0,mV x)] rfl (ab d ae (ag (ab d ae ?_)));have l:((x:Int) == (0:Int))=false:=fl oM;have B:=ah l;refine lB 4 l (ai (cK (ab d aN (lV 7 (mV (18446744073709551616-x)) ?_ (hr:=rU ((0-(x:Int))) kR (by rw[IntKind.wrap_u64];omega))))));refine lV 8 (mV p) ?_ (hr:=ba (n:=bits .and .u64 (x:Int) ((18446744073709551616-x:Nat):Int)) kR (by rw[bits_and_u64_nat _ _ C oM];exact congrArg _ j));refine lV 9 (mV y) ?_ (hr:=rU (((p:Int)*285870213051353865)) kR ((mM p 285870213051353865).trans (congrArg _ hy)));refine lV 10 (mV z) ?_ (hr:=ba (ig (t:=23) (u:=171) (x:=.tmp 9) (y:=.const (uV 58)) (ky:=.u64) (a:=y) (n:=58) kR kR kR oM _) (congrArg _ (by rw[show (2:Nat)^58=288230376151711744 from rfl];exact hz)));refine lV 11 (qP 3 z) ?_ (hr:=Ig (GE (t:=269) (e:=5) (x:=.global 3) (ix:=.tmp 10) (b:=3) (off:=0) (sz:=1) (len:=64) (kk:=.u64) (i:=(z:Int)) z kR kR kR kR kR rfl c.1 _));refine lH 12 (.int .u8 (k:Int)) d (Tab.at d.f.1 c) (lV 13 (nV k) ?_ (hr:=rS ((k:Int)) kR (l6 oM oM)));exact lL d ae (af d [] (nV k) rfl)
theorem sI (A:Z9)(c:Nat)(l:List Nat)(n:Nat)(O:l.length=n)(y:Wd l)(I:0<aE l)(J:l.length<=1000000000)(w:World)(h:Hp)(g:G w h)(H:Tab h)(F:SlO 1 ar 0 h A l):CR 153 #[.slice A n c] w h (fun v _=>∃ k m:Nat,v=nV k/\Tz (aE l) k m/\k/64<l.length):=by
 have a:=(((sS g).add (K:=fun b=>Tab b) H).aS F);refine go Tryz.func153 [(0,qS A n c)] rfl (ab a ae (a7 (lL a ae (ag (kZ ?_)))));refine bU _ (CG.loop (fun u Γ B=>∃ (i:Nat)(b:Hp),u=l.length-i/\Γ=[(0,qS A n c),(2,iV 0),(3,nV i)]/\SS w h B b [] [] [fun b=>SlO 1 ar 0 b A l,fun b=>Tab b]/\i<=l.length/\aE l=18446744073709551616^i*aq 18446744073709551616 (l.drop i)) _ ⟨0,h,rfl,rfl,a.to _ _,JU _,(by show aq _ _=_;rw[J9,Nat.one_mul,yL])⟩ ?_);rintro _ _ w1 ⟨i,z,C,rfl,a,hi,inv⟩;have e:i<l.length:=by rcases ep i l.length with b|b;exact b;rw[yT b] at inv;simp[aq] at inv;omega
 refine cQ (ab a aN (lX 6 A n c 1 (i:Nat) i ((a.f.1).ok oM) ?_));refine lH 7 (mV (l.getD i 0)) a ((a.f.1).el i oM) ?_;cases d:(((l.getD i 0:Nat):Int) == (0:Int))
 .
  have j:=ah d;refine lB 8 d (ai (CG.exit ?_))
  show CG _ _ _ _ _ _ _ _
  refine ab a ae (lI 12 (64*(i:Nat)) ?_);refine lL a aN (lX 15 A n c 1 (i:Nat) i ((a.f.1).ok oM) ?_);refine lH 16 (mV (l.getD i 0)) a ((a.f.1).el i oM) (ak 17 a (Hn (l.getD i 0) oM (y.get i) _ _ a.g a.f.2.1) (fun M Q a=>?_));obtain ⟨L,p,o⟩:=F9 (x:=l.getD i 0) oM (y.get i);exact lI 18 ((64*(i:Nat))+(Lib.ctz 64 (l.getD i 0):Nat)) (lL a ae (af a [] (iV ((64*(i:Nat))+(Lib.ctz 64 (l.getD i 0):Nat))) (⟨_,_,rfl,Tz.word (by rw[inv,fN _ e]) p o,by omega⟩)))
 have j:=eq_of_beq d;refine lB 8 d (au (cK (kZ (kQ (lL a ae (bM 10 ((i:Nat)+1) (i+1) ?_))))));refine lL a ae (lD ?_);intro S D;refine ⟨_,_,?_,⟨i+1,z,rfl,rfl,a.to _ _,oM,(xM e oM inv)⟩,D.to _ kR⟩
 omega
theorem Dt (A:Z9)(c:Nat)(l:List Nat)(n:Nat)(C:l.length=n)(B:l.length<=1099511627776)(D:l.length<=c)(w:World)(h:Hp)(g:G w h)(z:SlO 1 ar 0 h A l):CV 189 #[.slice A n c] w h (.slice A (tl l n) c):=by
 have a:=((sS g).aS z);refine go Tryz.func189 [(0,qS A n c)] rfl (ab a ae (ag (kZ ?_)));refine bU _ (CG.loop (fun j Γ u=>∃ (m:Nat)(k:Hp),j=m/\Γ=[(2,sZ),(0,qS A m c)]/\SS w h u k [] [] [fun k=>SlO 1 ar 0 k A l]/\m<=n/\tl l n=tl l m) _ ⟨n,h,rfl,rfl,a.to _ _,nR _,rfl⟩ ?_);rintro _ _ w1 ⟨m,p,x,rfl,a,F,o⟩;refine cQ (ab a [.c,.v (nV m)] ?_);cases d:(decide ((0:Int)<(m:Int)))
 .
  have e:=oF d;refine lB 5 d (lL a ae (lG 7 ?_));refine lG 8 (lG 9 (lG 10 (lG 11 (lG 12 (lG 13 (lL a [.v qF] (ai (CG.exit ?_))))))))
  show CG _ _ _ _ _ _ _ _
  exact ab a aN (af a [] (qS A m c) (by rw[o,nM oM]))
 have e:=oT d;refine lB 5 d (lL a [.c,.c,.c,.v (nV m)] (bM 10 ((m:Nat)-1) (m-1) ?_));refine lX 11 A m c 1 (m-1:Nat) (m-1) ((a.f.1).ok oM) (lH 12 (mV (l.getD (m-1) 0)) a ((a.f.1).el (m-1) oM) ?_);cases b:(((l.getD (m-1) 0:Nat):Int) == (0:Int))
 .
  have i:=ah b;refine lB 13 b (lL a [.v qF] (ai (CG.exit ?_)))
  show CG _ _ _ _ _ _ _ _
  exact ab a aN (af a [] (qS A m c) (by rw[o,nM oM]))
 have i:=eq_of_beq b;refine lB 13 b (lL a [.v qT] (au (cK (kZ (kQ (lL a [.c,.c,.v (nV m)] (bM 18 ((m:Nat)-1) (m-1) ?_)))))));refine lT 19 A m c 1 (m-1:Nat) (m-1) (lL a ae (lD ?_));intro H y;refine ⟨_,_,?_,⟨m-1,p,rfl,rfl,a.to _ _,oM,(by rw[o];exact vS oM oM)⟩,y.to _ kR⟩
 omega
theorem An (A:Z9)(c:Nat)(D:Z9)(d:Nat)(x y n e:Nat)(V:(wds x).length=n)(O:(wds y).length=e)(F:(wds x).length<=1000000000)(Q:(wds y).length<=1000000000)(w:World)(h:Hp)(g:G w h)(L:SlO 1 ar 0 h A (wds x))(I:SlO 1 ar 0 h D (wds y)):CV 155 #[.slice A n c,.slice D e d] w h (iV (cA x y)):=by
 have a:=(((sS g).aS L).aS I);refine go Tryz.func155 [(0,qS A n c),(1,qS D e d)] rfl (ab a ae (ag (ab a [.c,.v (nV n),.c,.v (nV e)] ?_)));cases l:((n:Int) != (e:Int))
 .
  have p:=aJ l;refine lB 10 l (ai (cK (cQ (ab a [.c,.v (nV n)] (lV 18 (iV ((n:Int)-1)) ?_ (hr:=rS (((n:Nat)-1)) kR ((gz oM oM).trans oM)))))));refine lL a ae (be ?_);refine bU _ (CG.loop (fun C Γ H=>∃ (m:Nat)(B:Hp),C=m/\Γ=[(0,qS A n c),(1,qS D e d),(5,iV ((m:Int)-1))]/\SS w h H B [] [] [fun B=>SlO 1 ar 0 B D (wds y),fun B=>SlO 1 ar 0 B A (wds x)]/\m<=n/\(wds x).length=(wds y).length/\(wds x).drop m=(wds y).drop m) _ ⟨n,h,rfl,rfl,a.to _ _,nR _,oM,(by rw[yT oM,yT oM])⟩ ?_);rintro _ _ w2 ⟨m,X,M,rfl,a,W,b,i⟩;refine cQ (ab a ae ?_);cases j:(decide ((0:Int)<=((m:Int)-1:Int)))
  .
   have z:=oF j;refine lB 20 j (ai (CG.exit ?_))
   show CG _ _ _ _ _ _ _ _
   exact ab a ae (af a [] (iV 0) (by rw[iS (Fb (by rw[show m=0 by omega] at i;simpa using i))]))
  have z:=oT j;refine lB 20 j (au (cK (cQ (kZ (cQ (cR 9 [] mixed a ao ?_))))));refine eV 0 23 (qS A n c) (eV 1 24 (iV ((m:Int)-1)) (eX 2 25 A n c 1 ((m:Int)-1) (m-1) ((a.f.2.1).ok oM) (eH 3 26 (mV ((wds x).getD (m-1) 0)) a ((a.f.2.1).el (m-1) oM) (eV 4 27 (qS D e d) (eV 5 28 (iV ((m:Int)-1)) (eX 6 29 D e d 1 ((m:Int)-1) (m-1) ((a.f.1).ok oM) (eH 7 30 (mV ((wds y).getD (m-1) 0)) a ((a.f.1).el (m-1) oM) ?_)))))));cases o:((((wds x).getD (m-1) 0:Nat):Int) != (((wds y).getD (m-1) 0:Nat):Int))
  .
   have u:=aJ o;refine eB 8 31 o (ce a (fun Y J a=>tN (dv (cK (kQ (lL a ae (lV 22 (iV (((m-1:Nat):Int)-1)) ?_ (hr:=rS ((((m:Int)-1)-1)) kR ((gz oM oM).trans oM)))))))));refine lL a ae (lD ?_);intro Z K;refine ⟨_,_,?_,⟨m-1,J,rfl,rfl,a.to _ _,oM,b,(fI (k:=m-1) b oM (by rw[show m-1+1=m by omega];exact i) oM)⟩,K.to _ kR⟩
   omega
  have u:=aU o;refine eB 8 31 o (ce a (fun _ _ a=>tN (bT (cQ (cQ (cR 9 [] mixed a ao ?_))))));refine eV 0 32 (qS A n c) (eV 1 33 (iV ((m:Int)-1)) (eX 2 34 A n c 1 ((m:Int)-1) (m-1) ((a.f.2.1).ok oM) (eH 3 35 (mV ((wds x).getD (m-1) 0)) a ((a.f.2.1).el (m-1) oM) (eV 4 36 (qS D e d) (eV 5 37 (iV ((m:Int)-1)) (eX 6 38 D e d 1 ((m:Int)-1) (m-1) ((a.f.1).ok oM) (eH 7 39 (mV ((wds y).getD (m-1) 0)) a ((a.f.1).el (m-1) oM) ?_)))))));cases za:(decide ((((wds x).getD (m-1) 0:Nat):Int)<(((wds y).getD (m-1) 0:Nat):Int)))
  .
   have S:=oF za;exact eB 8 40 za (ce a (fun _ _ a=>tN (dv (cK (ab a ae (af a [] (iV 1) (by rw[<-lM (k:=m-1) b oM (by rw[show m-1+1=m by omega];exact i) oM,fE oM])))))))
  have S:=oT za;exact eB 8 40 za (ce a (fun _ _ a=>tN (bT (ab a ae (af a [] (iV (-1)) (by rw[<-lM (k:=m-1) b oM (by rw[show m-1+1=m by omega];exact i) oM,dW oM]))))))
 have p:=aU l;refine lB 10 l (au (cQ (ab a [.c,.v (nV n),.c,.v (nV e)] ?_)));cases zb:(decide ((n:Int)<(e:Int)))
 .
  have U:=oF zb;exact lB 15 zb (ai (cK (ab a ae (af a [] (iV 1) (by rw[fE (gm oM)])))))
 have U:=oT zb;exact lB 15 zb (au (ab a ae (af a [] (iV (-1)) (by rw[dW (gm oM)]))))
theorem vO (n:Nat)(hn:0<n)(X:(wds n).length<=1000000000)(w:World)(h:Hp)(g:G w h):CR 152 #[nv n] w h (fun v h1=>BJ h h1 v (wds n)):=by
 have e:=sS g;have Z:=mF n;have hwl:=l7 n;have hbl:=jz n ((nb n+7)/8);have W:=(cW hn).2.2;refine go Tryz.func152 [(0,nv n)] rfl (aD (lA 1 25 (nc n) e (fun K w2 h3 e=>lL e ae (a7 (lL e [.o (nv n) 0 0 2] (lC 7 e (Aj n X _ _ e.g) ?_))))));rintro _ w4 h5 e ⟨D,rfl,hb⟩;replace e:=e.aS hb;refine lL e ae (a7 (lL e [.c,.v (nV ((nb n+7)/8))] (bM 10 ((((nb n+7)/8):Nat)+7) ((((nb n+7)/8):Nat)+7) ?_)));refine lV 11 (nV (((((nb n+7)/8):Nat)+7:Nat)/8)) ?_ (hr:=ba (dZ (t:=3) (u:=3) (x:=.tmp 10) (y:=.const (iV 8)) (k:=.i64) (a:=(((((nb n+7)/8):Nat)+7:Nat):Int)) (b:=(8:Int)) kR kR kR oM _) (dV ((((nb n+7)/8):Nat)+7:Nat) 8 oM));refine lK 12 23 (((((nb n+7)/8):Nat)+7:Nat)/8:Nat) 1 8 (uV 0) ar 0 e (fun j w7 h8 e=>?_);have Q:(y2 (((((nb n+7)/8):Nat)+7:Nat)/8:Nat) 0).length=(((((nb n+7)/8):Nat)+7:Nat)/8:Nat):=by simp
 refine lL e ae (ag (ab e [.c,.v (nV ((nb n+7)/8)),.c] (be ?_)));refine bU _ (CG.loop (fun M Γ Y=>∃ (i:Nat)(l:List Nat)(S:Hp),M=((nb n+7)/8)-i/\Γ=[(2,sZ),(3,qS D ((nb n+7)/8) ((nb n+7)/8)),(4,qS (sB j) (((((nb n+7)/8):Nat)+7:Nat)/8:Nat) (((((nb n+7)/8):Nat)+7:Nat)/8:Nat)),(14,nV ((nb n+7)/8)),(15,nV i)]/\SS w h Y S [⟨j,23,(l).flatMap ar⟩,⟨K,25,nc n⟩] [] [fun S=>SlO 1 nw 0 S D (fT n ((nb n+7)/8))]/\i<=((nb n+7)/8)/\l.length=(((nb n+7)/8)+7)/8/\Wd l/\aE l=n%256^i) _ ⟨0,y2 (((((nb n+7)/8):Nat)+7:Nat)/8:Nat) 0,h8,rfl,rfl,e.to _ _,JU _,Q,Wd.rep _,(by show aq _ _=_;rw[fZ,J9,Nat.mod_one])⟩ ?_);rintro _ _ _ ⟨i,l,_,U,rfl,e,hi,B,F,inv⟩;have hbi:=kK n ((nb n+7)/8) (((nb n+7)/8)-1-i);refine aD ?_;cases za:(decide ((i:Int)<((((nb n+7)/8):Nat):Int)))
 .
  have zb:=oF za;refine lB 16 za (ag (dv (CG.exit ?_)))
  show CG _ _ _ _ _ _ _ _
  refine ab e aN (lN (kX ?_));have O:i=((nb n+7)/8):=by omega
  have V:aE l=n:=by rw[inv,O];exact y4 (A3 n)
  have H:l=wds n:=by rw[<-V];exact (AH F (by rw[B,V];omega)).symm
  rw[H] at e
  obtain ⟨_,e,z,C,p⟩:=e.pub 0;replace e:=(e.to [⟨K,25,nc n⟩] []).aS (SlO.of_flat (sz:=1) (f:=ar) (d:=0) (b:=j) (o:=0) (l:=wds n) (fun _=>rfl) z);exact e.ret [] (qS (sB j) (((((nb n+7)/8):Nat)+7:Nat)/8:Nat) (((((nb n+7)/8):Nat)+7:Nat)/8:Nat)) (⟨j,(by rw[show (((nb n+7)/8)+7)/8=(wds n).length by omega]),C,p,e.f.1⟩)
 have zb:=oT za;refine lB 16 za (ag (bT (cK (cQ (kZ (ab e aN (lN (cR 19 [] mixed e ao ?_))))))));refine eV 0 18 (qS (sB j) (((((nb n+7)/8):Nat)+7:Nat)/8:Nat) (((((nb n+7)/8):Nat)+7:Nat)/8:Nat)) (eV 1 19 (nV i) (eV 2 20 (nV (i/8)) ?_ (hv:=fun _=>ba (dZ (t:=3) (u:=3) (x:=.tmp 19) (y:=.const (iV 8)) (k:=.i64) (a:=(i:Int)) (b:=(8:Int)) kR kR kR oM _) (dV i 8 oM))));refine eX 3 21 (sB j) (((((nb n+7)/8):Nat)+7:Nat)/8:Nat) (((((nb n+7)/8):Nat)+7:Nat)/8:Nat) 1 (i/8:Nat) (i/8) rfl (eQ 4 22 0 l ar 1 0 (i/8) (mV ((l).getD (i/8) 0)) e oM (eV 5 23 (qS D ((nb n+7)/8) ((nb n+7)/8)) (eV 6 24 (qS D ((nb n+7)/8) ((nb n+7)/8)) (eV 7 25 (nV ((nb n+7)/8)) (nu 8 26 ((((nb n+7)/8):Nat)-1) ((((nb n+7)/8):Nat)-1) (eV 9 27 (nV i) (nu 10 28 (((((nb n+7)/8):Nat)-1:Nat)-(i:Nat)) (((((nb n+7)/8):Nat)-1:Nat)-i) (eX 11 29 D ((nb n+7)/8) ((nb n+7)/8) 1 (((((nb n+7)/8):Nat)-1:Nat)-i:Nat) (((((nb n+7)/8):Nat)-1:Nat)-i:Nat) ((e.f.1).ok oM) (eH 12 30 (.int .u8 ((fT n ((nb n+7)/8)).getD (((((nb n+7)/8):Nat)-1:Nat)-i:Nat) 0:Nat)) e ((e.f.1).el (((((nb n+7)/8):Nat)-1:Nat)-i:Nat) oM) (eV 13 31 (mV ((fT n ((nb n+7)/8)).getD (((((nb n+7)/8):Nat)-1:Nat)-i:Nat) 0)) ?_ (hv:=fun _=>rU ((((fT n ((nb n+7)/8)).getD (((((nb n+7)/8):Nat)-1:Nat)-i:Nat) 0:Nat):Int)) kR (bX oM oM))))))))))));refine eV 14 32 (nV i) (eV 15 33 (nV (i%8)) ?_ (hv:=fun _=>ba (gn (t:=3) (u:=3) (x:=.tmp 32) (y:=.const (iV 8)) (k:=.i64) (a:=(i:Int)) (b:=(8:Int)) kR kR kR oM _) (dY i 8)));refine nu 16 34 (8*(i%8:Nat)) (8*(i%8)) (eV 17 35 (mV (((fT n ((nb n+7)/8)).getD (((((nb n+7)/8):Nat)-1:Nat)-i:Nat) 0:Nat)*2^(8*(i%8))%18446744073709551616)) ?_ (hv:=fun _=>iO (t:=23) (u:=3) (x:=.tmp 31) (y:=.tmp 34) (ky:=.i64) (a:=((fT n ((nb n+7)/8)).getD (((((nb n+7)/8):Nat)-1:Nat)-i:Nat) 0:Nat)) (n:=(8*(i%8))) kR kR kR _));obtain ⟨I,J,L⟩:=tw oM inv (show (fT n ((nb n+7)/8)).getD (((nb n+7)/8)-1-i) 0=n/256^i%256 by rw[i5 n ((nb n+7)/8) _ oM,show ((nb n+7)/8)-1-(((nb n+7)/8)-1-i)=i by omega]);have hlg:=F.get (i/8);refine eV 18 36 (mV (l.getD (i/8) 0+(fT n ((nb n+7)/8)).getD (((nb n+7)/8)-1-i) 0*2^(8*(i%8)))) ?_ (hv:=fun _=>ba (j5 (t:=23) (u:=23) (x:=.tmp 22) (y:=.tmp 35) (a:=((l).getD (i/8) 0)) (b:=(((fT n ((nb n+7)/8)).getD (((((nb n+7)/8):Nat)-1:Nat)-i:Nat) 0:Nat)*2^(8*(i%8))%18446744073709551616:Nat)) kR kR kR oM oM _) (by rw[I]));refine ce e (fun _ zd e=>tX 19 37 (sB j) (((((nb n+7)/8):Nat)+7:Nat)/8:Nat) (((((nb n+7)/8):Nat)+7:Nat)/8:Nat) 1 (i/8:Nat) (i/8) rfl (tW 20 0 l ar 1 (i/8) (l.getD (i/8) 0+(fT n ((nb n+7)/8)).getD (((nb n+7)/8)-1-i) 0*2^(8*(i%8)):Nat) e oM (fun _ e=>?_)));have zc:((l).set (i/8) (l.getD (i/8) 0+(fT n ((nb n+7)/8)).getD (((nb n+7)/8)-1-i) 0*2^(8*(i%8)):Nat)).length=(((((nb n+7)/8):Nat)+7:Nat)/8:Nat):=by rw[JJ];exact B
 replace e:=e.to [⟨j,23,((l).set (i/8) (l.getD (i/8) 0+(fT n ((nb n+7)/8)).getD (((nb n+7)/8)-1-i) 0*2^(8*(i%8)):Nat)).flatMap ar⟩,⟨K,25,nc n⟩] [];refine tN (kQ (bM 38 ((i:Nat)+1) (i+1) ?_));refine lL e ae (lD ?_);intro a_ ka;refine ⟨_,_,?_,⟨i+1,(l).set (i/8) (l.getD (i/8) 0+(fT n ((nb n+7)/8)).getD (((nb n+7)/8)-1-i) 0*2^(8*(i%8)):Nat),zd,rfl,rfl,e.to _ _,oM,zc,(F.set _ J),L⟩,ka.to _ kR⟩
 omega
theorem B6 (A:Z9)(c:Nat)(l:List Nat)(n:Nat)(Y:l.length=n)(F:Wd l)(hl:l.length<=1000000000)(w:World)(h:Hp)(g:G w h)(X:SlO 1 ar 0 h A l):CV 157 #[.slice A n c] w h (nv (aE l)):=by
 have e:=((sS g).aS X);refine go Tryz.func157 [(0,qS A n c)] rfl (aD (lA 2 25 ([uV 0,eS]) e (fun D w2 h3 e=>a7 (lL e [.c,.v (nV n)] (bM 7 (8*(n:Nat)) (8*n) ?_)))));refine lK 8 5 (8*n) 1 1 (.int .u8 0) nw 0 e (fun B w5 Z e=>?_);have J:(y2 (8*n) 0).length=(8*n):=by simp
 refine lL e ae (ag (ab e [.c,.v (nV (8*n)),.c] (be ?_)));refine bU _ (CG.loop (fun H Γ U=>∃ (i:Nat)(z:List Nat)(K:Hp),H=8*n-i/\Γ=[(0,qS A n c),(2,pB D),(3,qS (sB B) (8*n) (8*n)),(10,nV (8*n)),(11,nV i)]/\SS w h U K [⟨B,5,(z).flatMap nw⟩,⟨D,25,[uV 0,eS]⟩] [] [fun K=>SlO 1 ar 0 K A l]/\i<=8*n/\z.length=8*n/\(∀ j,j<i->z.getD (8*n-1-j) 0=aE l/256^j%256)) _ ⟨0,y2 (8*n) 0,Z,rfl,rfl,e.to _ _,JU _,J,(fun j M=>absurd M oM)⟩ ?_);rintro _ _ w8 ⟨i,z,V,L,rfl,e,hi,p,Q⟩;have hwi:=F.get (i/8);refine aD ?_;cases za:(decide ((i:Int)<(((8*n):Nat):Int)))
 .
  have zb:=oF za;refine lB 12 za (ag (dv (CG.exit ?_)))
  show CG _ _ _ _ _ _ _ _
  refine ab e ae ?_;have him:i=8*n:=by omega
  have I:z=fT (aE l) (8*n):=sU p (fun j M=>Q j oM);rw[I] at e
  obtain ⟨_,e,C,S,O⟩:=e.pub 0;replace e:=(e.to [⟨D,25,[uV 0,eS]⟩] []).aS (SlO.of_flat (sz:=1) (f:=nw) (d:=0) (b:=B) (o:=0) (l:=fT (aE l) (8*n)) (fun _=>rfl) C);exact ak 33 e (vP (aE l) (8*n) (sB B) (8*n) oM oM (by have:=IM F;rwa [Y] at this) _ _ e.g e.f.1) (fun _ _ e=>lP 0 0 (nc (aE l)) e (fun _ e=>af e [(0,0,2)] (nv (aE l)) rfl))
 have zb:=oT za;refine lB 12 za (ag (bT (cK (cQ (kZ (ab e aN (lN (kQ (lL e [.c,.c,.v (nV (8*n))] (bM 17 (((8*n):Nat)-1) ((8*n)-1) ?_))))))))));refine lL e ae (bM 19 (((8*n)-1:Nat)-(i:Nat)) (((8*n)-1)-i) ?_);refine lL e aN (lV 22 (nV (i/8)) ?_ (hr:=ba (dZ (t:=3) (u:=3) (x:=.tmp 21) (y:=.const (iV 8)) (k:=.i64) (a:=(i:Int)) (b:=(8:Int)) kR kR kR oM _) (dV i 8 oM)));refine lX 23 A n c 1 (i/8:Nat) (i/8) ((e.f.1).ok oM) (lH 24 (mV (l.getD (i/8) 0)) e ((e.f.1).el (i/8) oM) (lL e ae (lV 26 (nV (i%8)) ?_ (hr:=ba (gn (t:=3) (u:=3) (x:=.tmp 25) (y:=.const (iV 8)) (k:=.i64) (a:=(i:Int)) (b:=(8:Int)) kR kR kR oM _) (dY i 8)))));refine bM 27 (8*(i%8:Nat)) (8*(i%8)) (lV 28 (mV ((l.getD (i/8) 0)/2^(8*(i%8)))) ?_ (hr:=ig (t:=23) (u:=3) (x:=.tmp 24) (y:=.tmp 27) (ky:=.i64) (a:=(l.getD (i/8) 0)) (n:=(8*(i%8))) kR kR kR oM _));refine lV 29 (.int .u8 (l.getD (i/8) 0/2^(8*(i%8))%256:Nat)) ?_ (hr:=ba (n:=IntKind.wrap .u8 ((l.getD (i/8) 0/2^(8*(i%8)):Nat):Int)) kR (BB _));refine lX 30 (sB B) (8*n) (8*n) 1 (((8*n)-1)-i:Nat) (((8*n)-1)-i:Nat) rfl (lW 0 z nw 1 (((8*n)-1)-i:Nat) (l.getD (i/8) 0/2^(8*(i%8))%256:Nat) e oM (fun _ e=>?_));have zc:((z).set (((8*n)-1)-i:Nat) (l.getD (i/8) 0/2^(8*(i%8))%256:Nat)).length=(8*n):=by rw[JJ];exact p
 replace e:=e.to [⟨B,5,((z).set (((8*n)-1)-i:Nat) (l.getD (i/8) 0/2^(8*(i%8))%256:Nat)).flatMap nw⟩,⟨D,25,[uV 0,eS]⟩] [];refine lN (kQ (bM 31 ((i:Nat)+1) (i+1) ?_));refine lL e ae (lD ?_);intro a_ W;refine ⟨_,_,?_,⟨i+1,(z).set (((8*n)-1)-i:Nat) (l.getD (i/8) 0/2^(8*(i%8))%256:Nat),V,rfl,rfl,e.to _ _,oM,zc,(gY p oM Q (pQ F i))⟩,W.to _ kR⟩
 omega
def win (l:List Nat)(o n:Nat):List Nat:=(l.drop o).take n
theorem bP {l:List Nat}{o n:Nat}(h:o+n<=l.length):(win l o n).length=n:=by unfold win;rw[A2,A5];omega
theorem tp {l:List Nat}{o n j:Nat}(h:j<n):(win l o n).getD j 0=l.getD (o+j) 0:=by unfold win;rw[jj h,bL]
theorem lf {l:List Nat}{o n i x:Nat}(hi:i<n):win (l.set (o+i) x) o n=(win l o n).set i x:=by
 unfold win
 rw[List.drop_set,if_neg oM,Kt,show o+i-o=i by omega]
theorem x7 {l:List Nat}{o n q:Nat}:(win l o n).drop q=win l (o+q) (n-q):=by
 unfold win;rw[List.drop_take,List.drop_drop]
theorem rc {l:List Nat}{o n m:Nat}(h:m<=n):(win l o n).take m=win l o m:=by
 unfold win;rw[List.take_take,Ga h]
theorem uA (l:List Nat)(n:Nat)(h:l.length<=n):win l 0 n=l:=by unfold win;rw[yL,JF h]
theorem Wd.win {l:List Nat}(h:Wd l)(o n:Nat):Wd (win l o n):=Dg.take (Dg.drop h o) n
theorem tZ {Z W:List Nat}{i p d a:Nat}(hi:i<Z.length)(inv:2^p*aq 18446744073709551616 (Z.take i)+a=aq 18446744073709551616 (W.take i)+18446744073709551616^i*(W.getD i 0%2^p))
  (hd:2^p*d+W.getD i 0%2^p=W.getD i 0+18446744073709551616*(W.getD (i+1) 0%2^p)) :
  2^p*aq 18446744073709551616 ((Z.set i d).take (i+1))+a=aq 18446744073709551616 (W.take (i+1))+18446744073709551616^(i+1)*(W.getD (i+1) 0%2^p):=by
 have e1:=a8 18446744073709551616 (Z.set i d) i;have e2:(Z.set i d).take i=Z.take i:=by rw[Kt,List.set_eq_of_length_le];rw[A2];omega
 rw[e2,bO hi,if_pos rfl] at e1
 have b:=a8 18446744073709551616 W i;have e:=congrArg (18446744073709551616^i * ·) hd
 simp only[D1] at e
 rw[e1,b,B2,D1];have f:2^p*(18446744073709551616^i*d)=18446744073709551616^i*(2^p*d):=by ac_rfl
 have c:18446744073709551616^i*18446744073709551616*(W.getD (i+1) 0%2^p)=18446744073709551616^i*(18446744073709551616*(W.getD (i+1) 0%2^p)):=by ac_rfl
 rw[f,c]
 omega
theorem vJ {X:List Nat}(d:Wd X){k m:Nat}(t:Tz (aE X) k m)(hk:k/64<X.length):aE (X.drop (k/64))=2^(k%64)*m/\(X.drop (k/64)).getD 0 0%2^(k%64)=0:=by
 have h1:aE (X.drop (k/64))=2^(k%64)*m:=by
  rw[oC d oM,t.1,xi k,Ft,Ku _ (Nat.pow_pos kD)]
 refine ⟨h1,?_⟩
 have c:aE (X.drop (k/64))=(X.drop (k/64)).getD 0 0+18446744073709551616*aq 18446744073709551616 ((X.drop (k/64)).drop 1):=by
  have:=fN 18446744073709551616 (l:=X.drop (k/64)) (k:=0) (by rw[A5];omega)
  rwa [yL] at this
 have b:(18446744073709551616:Nat)=2^(k%64)*2^(64-k%64):=by rw[<-Jw,show k%64+(64-k%64)=64 by omega]
 rw[h1] at c
 have a:(2^(k%64)*m)%2^(k%64)=0:=Nat.mul_mod_right _ _;rw[c] at a
 conv at a=>lhs;rw[b]
 rw[Ft,Nat.add_mul_mod_self_left] at a
 exact a
theorem FS {Z W:List Nat}{p m:Nat}(a:W.length<=Z.length)(inv:2^p*aq 18446744073709551616 (Z.take Z.length)+0=aq 18446744073709551616 (W.take Z.length)+18446744073709551616^Z.length*(W.getD Z.length 0%2^p))(e:aE W=2^p*m):aE Z=m:=by
 rw[yN,JF a,cO a,J4,Gb,yK,yK] at inv
 have e2:aq 18446744073709551616 W=2^p*m:=e;rw[e2] at inv
 exact Kp (H1 p) inv
theorem qV {l X:List Nat}{q i x N:Nat}(a:q+i<l.length)(h:∀ j,i<=j->j<N->l.getD (q+j) 0=X.getD j 0):∀ j,i+1<=j->j<N->(l.set (q+i) x).getD (q+j) 0=X.getD j 0:=fun j h1 b=>by
 rw[bO a,if_neg oM];exact h j oM b
theorem tY (rb:Nat)(C:List Nat)(o n c x:Nat)(hx:0<x)(hl0:C.length<=1000000000)(F:o+n<=C.length)(hnc:n<=c)(I:Wd C)(J:win C o n=wds x)(w:World)(h:Hp)(g:G w h)(ho:Own w rb 23 (C.flatMap ar))(S:h[rb]?=some bc)(tb:Tab h):Calls Tryz.prog 154 #[.slice (some ⟨rb,o,none⟩) n c] w (iw rb w h fun v w' _=>∃ z:List Nat,∃ o' n' c':Nat,v=.slice (some ⟨rb,o',none⟩) n' c'/\z.length=C.length/\Wd z/\o'+n'<=z.length/\n'<=c'/\(∃ k m:Nat,Tz x k m/\win z o' n'=wds m)/\Own w' rb 23 (z.flatMap ar)):=by
 have B:UpM [rb] w h w h:=UpM.refl g;obtain ⟨wz,hz,e⟩:=SS.at_ g ho S;have bf:C.length=C.length:=rfl;replace e:=(e.add (K:=fun Q=>Tab Q) tb);refine go Tryz.func154 [(0,qS (some ⟨rb,o,none⟩) n c)] rfl (ab e ae (a7 (lL e ae (Bh 7 0 e (fun _ g_ f_ M=>sI (some ⟨rb,o,none⟩) c (win C o n) n (bP F) (I.win _ _) (by rw[J,aI];exact hx) (by rw[bP F];omega) _ _ g_ (f_.1) (SlO.win (f:=ar) (d:=0) (b:=rb) (l:=C) (fun _=>rfl) M o n)) ?_))));rintro _ w1 h2 u3 e ⟨k,m,rfl,O,hkn⟩;replace B:=B.trans (u3.m _);rw[bP F] at hkn
 have hX:=I.win o n;obtain ⟨L,hr0⟩:=vJ hX O (by rw[bP F];omega);rw[x7] at L hr0
 obtain ⟨X,hXd⟩:∃ X,X=win C (o+k/64) (n-k/64):=⟨_,rfl⟩;rw[<-hXd] at L hr0
 have hXl:X.length=n-k/64:=by rw[hXd];exact bP oM
 have hXW:Wd X:=by rw[hXd];exact I.win _ _
 have hXg:∀ j,j<n-k/64->X.getD j 0=C.getD (o+k/64+j) 0:=fun j S=>by rw[hXd];exact tp S
 refine lL e ae (a7 (lL e aN (lV 10 (nV (k/64)) ?_ (hr:=ba (dZ (t:=3) (u:=3) (x:=.tmp 9) (y:=.const (iV 64)) (k:=.i64) (a:=(k:Int)) (b:=(64:Int)) kR kR kR oM _) (dV k 64 oM)))));refine I7 11 rb o n c 1 (k/64:Nat) (k/64) (o+(k/64)) (lL e ae (a7 (lL e ae (lV 13 (nV (k%64)) ?_ (hr:=ba (gn (t:=3) (u:=3) (x:=.tmp 12) (y:=.const (iV 64)) (k:=.i64) (a:=(k:Int)) (b:=(64:Int)) kR kR kR oM _) (dY k 64))))));refine lL e ae (ag (ab e [.c,.v (nV (n-(k/64))),.c] (be ?_)));refine bU _ (CG.loop (fun μ_ Γ w_=>∃ (i:Nat)(l:List Nat)(Q:Hp),μ_=(n-k/64)-i/\Γ=[(0,qS (some ⟨rb,(o+(k/64)),none⟩) (n-(k/64)) (c-(k/64))),(2,sZ),(4,nV (k%64)),(15,nV (n-(k/64))),(16,nV i)]/\SS wz hz w_ Q [⟨rb,23,(l).flatMap ar⟩] [] [fun Q=>Tab Q]/\i<=n-k/64/\l.length=C.length/\Wd l/\2^(k%64)*aq 18446744073709551616 ((win l (o+k/64) (n-k/64)).take i)+0=aq 18446744073709551616 (X.take i)+18446744073709551616^i*(X.getD i 0%2^(k%64))/\(∀ j,i<=j->j<n-k/64->l.getD (o+k/64+j) 0=X.getD j 0)/\UpM [rb] w h w_ Q) _ ⟨0,C,h2,rfl,rfl,e.to _ _,JU _,rfl,I,(by rw[hr0];simp[aq]),(fun j _ S=>(hXg j S).symm),B⟩ ?_);rintro _ _ w4 ⟨i,l,h5,hm6,rfl,e,hi,Y,U,inv,D,B⟩;refine aD ?_;cases H:(decide ((i:Int)<((n-(k/64):Nat):Int)))
 .
  have bb:=oF H;refine lB 17 H (ag (dv (CG.exit ?_)))
  show CG _ _ _ _ _ _ _ _
  refine ab e ae (Bh 47 0 e (fun _ g_ f_ M=>Dt (some ⟨rb,(o+k/64),none⟩) (c-(k/64)) (win l (o+k/64) (n-k/64)) (n-k/64) (bP oM) (by rw[bP oM];omega) (by rw[bP oM];omega) _ _ g_ (SlO.win (f:=ar) (d:=0) (b:=rb) (l:=l) (fun _=>rfl) M (o+k/64) (n-k/64))) ?_);rintro _ w8 h9 u10 e rfl;replace B:=B.trans (u10.m _);refine lL e ae (lN (kX ?_));have hiN:i=n-k/64:=by omega
  have W:(win l (o+k/64) (n-k/64)).length=n-k/64:=bP oM;have hE:=FS (Z:=win l (o+k/64) (n-k/64)) oM (by rw[W,<-hiN];rw[<-hiN] at inv;exact inv) L;have hZW:Wd (win l (o+k/64) (n-k/64)):=U.win _ _;have hwm:=pH hZW;rw[hE,W] at hwm
  have htl:=jf (win l (o+k/64) (n-k/64)) (n-k/64);exact e.retM B [] (qS (some ⟨rb,(o+k/64),none⟩) (tl (win l (o+k/64) (n-k/64)) (n-k/64)) (c-(k/64))) ⟨l,(o+k/64),_,_,rfl,Y,U,by omega,by omega,⟨k,m,by rw[J,aI] at O;exact O,by rw[hwm];exact (rc htl).symm⟩,e.own 0⟩
 have bb:=oT H;refine lB 17 H (ag (bT (cK (cQ (kZ (ab e aN (a7 (lL e aN (Gq 21 rb (o+(k/64)) (n-(k/64)) (c-(k/64)) 1 (i:Nat) i ((o+(k/64))+i) ?_)))))))));refine lQ 22 0 l ar 1 0 ((o+(k/64))+i) (mV ((l).getD ((o+(k/64))+i) 0)) e oM (lL e ae ?_);have hXi:X.getD i 0=l.getD (o+k/64+i) 0:=(D i (nR _) oM).symm;have hxi:=U.get (o+k/64+i);have hdv:=Bb (l.getD (o+k/64+i) 0) (2^(k%64));refine lV 24 (mV (((l).getD ((o+(k/64))+i) 0:Nat)/2^(k%64))) ?_ (hr:=ig (t:=23) (u:=3) (x:=.tmp 22) (y:=.tmp 23) (ky:=.i64) (a:=((l).getD ((o+(k/64))+i) 0:Nat)) (n:=(k%64)) kR kR kR oM _);refine Gq 25 rb (o+(k/64)) (n-(k/64)) (c-(k/64)) 1 (i:Nat) i ((o+(k/64))+i) (Hz 0 l ar 1 ((o+(k/64))+i) (((l).getD ((o+(k/64))+i) 0:Nat)/2^(k%64):Nat) e oM (fun _ pu e=>?_));replace B:=B.put pu (vl.2 rfl) e.g;have zb:((l).set ((o+(k/64))+i) (((l).getD ((o+(k/64))+i) 0:Nat)/2^(k%64):Nat)).length=C.length:=by rw[JJ];exact Y
 replace e:=e.to [⟨rb,23,((l).set ((o+(k/64))+i) (((l).getD ((o+(k/64))+i) 0:Nat)/2^(k%64):Nat)).flatMap ar⟩] [];refine a7 (lL e ae (bM 27 ((i:Nat)+1) (i+1) ?_));refine lL e [.c,.v (nV (n-(k/64)))] ?_;cases za:(decide (((i+1:Nat):Int)<((n-(k/64):Nat):Int)))
 .
  have zc:=oF za;refine lB 30 za (ai (cK (kQ (bM 45 ((i:Nat)+1) (i+1) ?_))));refine lL e ae (lD ?_);intro a_ ka;refine ⟨_,_,?_,⟨i+1,(l).set ((o+(k/64))+i) (((l).getD ((o+(k/64))+i) 0:Nat)/2^(k%64):Nat),h5,rfl,rfl,e.to _ _,oM,zb,(U.set _ oM),(by rw[lf oM];exact tZ (by rw[bP oM];omega) inv (by rw[hXi,cO (l:=X) (show X.length<=i+1 by omega),J4,Gb,yK];exact Nat.div_add_mod _ _)),(qV oM D),B⟩,ka.to _ kR⟩
  omega
 have zc:=oT za;refine lB 30 za (au (Bd ⟨[],none⟩ 13 mixed ?_));replace B:=B.trans ((Up.drew (Up.refl e.g)).m _);replace e:=e.drew;refine aV 0 31 (qS (some ⟨rb,(o+(k/64)),none⟩) (n-(k/64)) (c-(k/64))) (aV 1 32 (nV i) (IY 2 33 rb (o+(k/64)) (n-(k/64)) (c-(k/64)) 1 (i:Nat) i ((o+(k/64))+i) (aQ 3 34 0 ((l).set ((o+(k/64))+i) (((l).getD ((o+(k/64))+i) 0:Nat)/2^(k%64):Nat)) ar 1 0 ((o+(k/64))+i) (mV (((l).set ((o+(k/64))+i) (((l).getD ((o+(k/64))+i) 0:Nat)/2^(k%64):Nat)).getD ((o+(k/64))+i) 0)) e oM (aV 4 35 (qS (some ⟨rb,(o+(k/64)),none⟩) (n-(k/64)) (c-(k/64))) (aV 5 36 (nV i) (aV 6 37 (nV (i+1)) ?_ (hv:=fun _=>rS (((i:Nat)+1)) kR ((gz oM oM).trans oM))))))));refine IY 7 38 rb (o+(k/64)) (n-(k/64)) (c-(k/64)) 1 (i+1:Nat) (i+1) ((o+(k/64))+(i+1)) (aQ 8 39 0 ((l).set ((o+(k/64))+i) (((l).getD ((o+(k/64))+i) 0:Nat)/2^(k%64):Nat)) ar 1 0 ((o+(k/64))+(i+1)) (mV (((l).set ((o+(k/64))+i) (((l).getD ((o+(k/64))+i) 0:Nat)/2^(k%64):Nat)).getD ((o+(k/64))+(i+1)) 0)) e oM (aV 9 40 (nV (k%64)) (aV 10 41 (nV (64-(k%64))) ?_ (hv:=fun _=>rS ((64-(k%64:Nat))) kR ((gz oM oM).trans oM)))));refine aV 11 42 (mV ((((l).set ((o+(k/64))+i) (((l).getD ((o+(k/64))+i) 0:Nat)/2^(k%64):Nat)).getD ((o+(k/64))+(i+1)) 0:Nat)*2^(64-(k%64))%18446744073709551616)) ?_ (hv:=fun _=>iO (t:=23) (u:=3) (x:=.tmp 39) (y:=.tmp 41) (ky:=.i64) (a:=(((l).set ((o+(k/64))+i) (((l).getD ((o+(k/64))+i) 0:Nat)/2^(k%64):Nat)).getD ((o+(k/64))+(i+1)) 0:Nat)) (n:=(64-(k%64))) kR kR kR _);have hXn:X.getD (i+1) 0=l.getD (o+k/64+(i+1)) 0:=(D (i+1) oM oM).symm;obtain ⟨hS1,hS2,hS3⟩:=qn (x:=l.getD (o+k/64+i) 0) (y:=l.getD (o+k/64+(i+1)) 0) (p:=k%64) oM hxi;have hgs:=bO (l:=l) (k:=o+k/64+i) (j:=o+k/64+i) (x:=l.getD (o+k/64+i) 0/2^(k%64)) oM;rw[if_pos rfl] at hgs
 have V:=bO (l:=l) (k:=o+k/64+i) (j:=o+k/64+(i+1)) (x:=l.getD (o+k/64+i) 0/2^(k%64)) oM;rw[if_neg oM] at V
 refine aV 12 43 (mV (l.getD (o+k/64+i) 0/2^(k%64)+l.getD (o+k/64+(i+1)) 0*2^(64-k%64)%18446744073709551616)) ?_ (hv:=fun _=>ba (j5 (t:=23) (u:=23) (x:=.tmp 34) (y:=.tmp 42) (a:=(((l).set ((o+(k/64))+i) (((l).getD ((o+(k/64))+i) 0:Nat)/2^(k%64):Nat)).getD ((o+(k/64))+i) 0:Nat)) (b:=((((l).set ((o+(k/64))+i) (((l).getD ((o+(k/64))+i) 0:Nat)/2^(k%64):Nat)).getD ((o+(k/64))+(i+1)) 0:Nat)*2^(64-(k%64))%18446744073709551616:Nat)) kR kR kR oM oM _) (by rw[hgs,V,hS1]));refine Jf 13 44 rb (o+(k/64)) (n-(k/64)) (c-(k/64)) 1 (i:Nat) i ((o+(k/64))+i) (Jg 14 0 ((l).set ((o+(k/64))+i) (((l).getD ((o+(k/64))+i) 0:Nat)/2^(k%64):Nat)) ar 1 ((o+(k/64))+i) (l.getD (o+k/64+i) 0/2^(k%64)+l.getD (o+k/64+(i+1)) 0*2^(64-k%64)%18446744073709551616:Nat) e oM (fun _ pu e=>?_));replace B:=B.put pu (vl.2 rfl) e.g;have zd:(((l).set ((o+(k/64))+i) (((l).getD ((o+(k/64))+i) 0:Nat)/2^(k%64):Nat)).set ((o+(k/64))+i) (l.getD (o+k/64+i) 0/2^(k%64)+l.getD (o+k/64+(i+1)) 0*2^(64-k%64)%18446744073709551616:Nat)).length=C.length:=by rw[JJ];exact zb
 replace e:=e.to [⟨rb,23,(((l).set ((o+(k/64))+i) (((l).getD ((o+(k/64))+i) 0:Nat)/2^(k%64):Nat)).set ((o+(k/64))+i) (l.getD (o+k/64+i) 0/2^(k%64)+l.getD (o+k/64+(i+1)) 0*2^(64-k%64)%18446744073709551616:Nat)).flatMap ar⟩] [];refine tN (kQ (bM 45 ((i:Nat)+1) (i+1) ?_));refine lL e ae (lD ?_);intro a_ ka;refine ⟨_,_,?_,⟨i+1,((l).set ((o+(k/64))+i) (((l).getD ((o+(k/64))+i) 0:Nat)/2^(k%64):Nat)).set ((o+(k/64))+i) (l.getD (o+k/64+i) 0/2^(k%64)+l.getD (o+k/64+(i+1)) 0*2^(64-k%64)%18446744073709551616:Nat),h5,rfl,rfl,e.to _ _,oM,zd,((U.set _ oM).set _ hS2),(by rw[Kc,lf oM];exact tZ (by rw[bP oM];omega) inv (by rw[hXi,hXn];exact hS3)),(by rw[Kc];exact qV oM D),B⟩,ka.to _ kR⟩
 omega
theorem GB (rb:Nat)(u:List Nat)(o n c x:Nat)(hl0:u.length<=1000000000)(hon:o+n<=u.length)(hnc:n<=c)(hW0:Wd u)(F:win u o n=wds x)(D:Z9)(d y m:Nat)(hm:(wds y).length=m)(hmd:m<=d)(Z:y<=x)(w:World)(h:Hp)(g:G w h)(ho:Own w rb 23 (u.flatMap ar))(hj:h[rb]?=some bc)(hD:SlO 1 ar 0 h D (wds y)):Calls Tryz.prog 156 #[.slice (some ⟨rb,o,none⟩) n c,.slice D m d] w (iw rb w h fun v w' _=>∃ z:List Nat,∃ o' X c':Nat,v=.slice (some ⟨rb,o',none⟩) X c'/\z.length=u.length/\Wd z/\o'+X<=z.length/\X<=c'/\win z o' X=wds (x-y)/\Own w' rb 23 (z.flatMap ar)):=by
 have e:UpM [rb] w h w h:=UpM.refl g;obtain ⟨wz,hz,a⟩:=SS.at_ g ho hj;have bf:u.length=u.length:=rfl;replace a:=a.aS hD;have hwn:n=(wds x).length:=by rw[<-F,bP hon]
 have hlm:=dh Z;refine go Tryz.func156 [(0,qS (some ⟨rb,o,none⟩) n c),(1,qS D m d)] rfl (ab a ae (a7 (lL a ae (ag (ab a [.c,.v (nV n),.c] (be ?_))))));refine bU _ (CG.loop (fun μ_ Γ w_=>∃ (i:Nat)(l:List Nat)(I:Nat)(Y:Hp),μ_=n-i/\Γ=[(0,qS (some ⟨rb,o,none⟩) n c),(1,qS D m d),(4,sZ),(9,nV n),(10,nV i),(5,mV I)]/\SS wz hz w_ Y [⟨rb,23,(l).flatMap ar⟩] [] [fun Y=>SlO 1 ar 0 Y D (wds y)]/\i<=n/\l.length=u.length/\Wd l/\I<=1/\aq 18446744073709551616 (win l o n)+aq 18446744073709551616 ((wds y).take i)=x+18446744073709551616^i*I/\UpM [rb] w h w_ Y) _ ⟨0,u,0,h,rfl,rfl,a.to _ _,JU _,rfl,hW0,oM,(by have hx_:aq 18446744073709551616 (wds x)=x:=aI x;rw[F,hx_];simp[aq]),e⟩ ?_);rintro _ _ w1 ⟨i,l,I,h2,hm3,rfl,a,hi,H,K,hbo,inv,e⟩;have hlk:=K.get (o+i);have hyk:=(Wd.wds y).get i;have V:=tp (l:=l) (o:=o) (n:=n) (j:=i);refine aD ?_;cases B:(decide ((i:Int)<(n:Int)))
 .
  have O:=oF B;refine lB 11 B (ag (dv (CG.exit ?_)))
  show CG _ _ _ _ _ _ _ _
  refine ab a ae (Bh 36 0 a (fun _ g_ f_ sg_=>Dt (some ⟨rb,o,none⟩) c (win l o n) n (bP oM) (by rw[bP oM];omega) (by rw[bP oM];omega) _ _ g_ (SlO.win (f:=ar) (d:=0) (b:=rb) (l:=l) (fun _=>rfl) sg_ o n)) ?_);rintro _ w5 h6 u7 a rfl;replace e:=e.trans (u7.m _);refine lL a ae (lN (kX ?_));have hiN:i=n:=by omega
  have S:(win l o n).length=n:=bP oM;rw[JF (show (wds y).length<=i by omega),hiN] at inv
  have L:Wd (win l o n):=K.win _ _;have hE:aE (win l o n)=x-y:=ph L (by rw[S];have hb_:aq 18446744073709551616 (wds y)=y:=aI y;rw[hb_] at inv;exact inv) oM hbo;have W:=pH L;rw[hE,S] at W
  have htl:=jf (win l o n) n;exact a.retM e [] (qS (some ⟨rb,o,none⟩) (tl (win l o n) n) c) ⟨l,o,_,_,rfl,H,K,by omega,by omega,(by rw[W];exact (rc htl).symm),a.own 0⟩
 have O:=oT B;refine lB 11 B (ag (bT (cK (cQ (kZ (ab a aN (a7 (lL a ae (ag (ab a [.c,.c,.v (nV m)] ?_))))))))));cases C:(decide ((i:Int)<(m:Int)))
 .
  have U:=oF C;refine lB 16 C (ai (cK (kQ (lL a nK (Gq 26 rb o n c 1 (i:Nat) i (o+i) ?_)))));refine lQ 27 0 l ar 1 0 (o+i) (mV ((l).getD (o+i) 0)) a oM (lL a aN ?_);obtain ⟨J,za,bl,bt,bb,M⟩:=jx ((l).getD (o+i) 0) 0 I wM wM oM;refine lV 30 (.tuple #[mV J,mV za]) ?_ (hr:=d3 kR (M _));refine lL a [.c,.v (mV J),.v (mV za)] (Gq 33 rb o n c 1 (i:Nat) i (o+i) ?_);refine Hz 0 l ar 1 (o+i) J a oM (fun _ pu a=>?_);replace e:=e.put pu (vl.2 rfl) a.g;have zc:((l).set (o+i) J).length=u.length:=by rw[JJ];exact H
  replace a:=a.to [⟨rb,23,((l).set (o+i) J).flatMap ar⟩] [];refine lL a ae (lN (kQ (bM 34 ((i:Nat)+1) (i+1) ?_)));refine lL a ae (lD ?_);intro a_ ka;refine ⟨_,_,?_,⟨i+1,(l).set (o+i) J,za,h2,rfl,rfl,a.to _ _,oM,zc,(K.set _ oM),oM,(by rw[lf oM];exact iN (by rw[bP oM];omega) inv (by rw[V oM];first|omega|(have hy0:=cO (l:=wds y) (k:=i) oM;omega))),e⟩,ka.to _ kR⟩
  omega
 have U:=oT C;refine lB 16 C (au (kQ (lL a aN (lX 19 D m d 1 (i:Nat) i ((a.f.1).ok oM) ?_))));refine lH 20 (mV ((wds y).getD i 0)) a ((a.f.1).el i oM) (lL a ae (lN (kQ (lL a nK (Gq 26 rb o n c 1 (i:Nat) i (o+i) ?_)))));refine lQ 27 0 l ar 1 0 (o+i) (mV ((l).getD (o+i) 0)) a oM (lL a aN ?_);obtain ⟨p,zb,bm,bn,bq,Q⟩:=jx ((l).getD (o+i) 0) ((wds y).getD i 0) I wM wM oM;refine lV 30 (.tuple #[mV p,mV zb]) ?_ (hr:=d3 kR (Q _));refine lL a [.c,.v (mV p),.v (mV zb)] (Gq 33 rb o n c 1 (i:Nat) i (o+i) ?_);refine Hz 0 l ar 1 (o+i) p a oM (fun _ pu a=>?_);replace e:=e.put pu (vl.2 rfl) a.g;have zd:((l).set (o+i) p).length=u.length:=by rw[JJ];exact H
 replace a:=a.to [⟨rb,23,((l).set (o+i) p).flatMap ar⟩] [];refine lL a ae (lN (kQ (bM 34 ((i:Nat)+1) (i+1) ?_)));refine lL a ae (lD ?_);intro a_ ka;refine ⟨_,_,?_,⟨i+1,(l).set (o+i) p,zb,h2,rfl,rfl,a.to _ _,oM,zd,(K.set _ oM),oM,(by rw[lf oM];exact iN (by rw[bP oM];omega) inv (by rw[V oM];first|omega|(have hy0:=cO (l:=wds y) (k:=i) oM;omega))),e⟩,ka.to _ kR⟩
 omega
theorem Tz.le {n k m:Nat}(t:Tz n k m):m<=n:=by rw[t.1];exact Kv m (H1 k)
theorem nk (a b:Nat):(cA a b=0/\a=b)\/(cA a b = -1/\a<b)\/(cA a b=1/\b<a):=by
 rcases Nat.lt_trichotomy a b with h|h|h
 ·exact .inr (.inl ⟨dW h,h⟩)
 ·exact .inl ⟨iS h,h⟩
 ·exact .inr (.inr ⟨fE h,h⟩)
theorem uz (A:Z9)(c:Nat)(D:Z9)(d:Nat)(x y n a:Nat)(f b:List Nat)(i:f=wds x)(u:b=wds y)(o:f.length=n)(e:b.length=a)(j:n<=1000000000)(p:a<=1000000000)(w:World)(h:Hp)(g:G w h)(l:SlO 1 ar 0 h A f)(k:SlO 1 ar 0 h D b):CV 155 #[.slice A n c,.slice D a d] w h (iV (cA x y)):=by
 subst i u;exact An A c D d x y n a o e oM oM w h g l k
theorem HF (A:Z9)(c:Nat)(l:List Nat)(n x:Nat)(a:l=wds x)(b:l.length=n)(e:n<=1000000000)(w:World)(h:Hp)(g:G w h)(d:SlO 1 ar 0 h A l):CV 157 #[.slice A n c] w h (nv x):=by
 subst a;have:=B6 A c (wds x) n b (Wd.wds x) oM w h g d
 rwa [aI] at this
theorem Ae (rb:Nat)(a:List Nat)(o n c x:Nat)(k:a.length<=1000000000)(l:o+n<=a.length)(f:n<=c)(u:Wd a)(b:win a o n=wds x)(D:Z9)(d y m:Nat)(j:List Nat)(H:j=wds y)(I:j.length=m)(p:m<=d)(i:y<=x)(w:World)(h:Hp)(g:G w h)(F:Own w rb 23 (a.flatMap ar))(C:h[rb]?=some bc)(B:SlO 1 ar 0 h D j):Calls Tryz.prog 156 #[.slice (some ⟨rb,o,none⟩) n c,.slice D m d] w (iw rb w h fun v w' _=>∃ z:List Nat,∃ o' e c':Nat,v=.slice (some ⟨rb,o',none⟩) e c'/\z.length=a.length/\Wd z/\o'+e<=z.length/\e<=c'/\win z o' e=wds (x-y)/\Own w' rb 23 (z.flatMap ar)):=by
 subst H;exact GB rb a o n c x k l f u b D d y m I p i w h g F C B
theorem Cl (x y:Nat)(hx:0<x)(hy:0<y)(hlx:(wds x).length<=1000000000)(hly:(wds y).length<=1000000000)(w:World)(h:Hp)(g:G w h)(tb:Tab h):CV 124 #[nv x,nv y] w h (nv (Kq x y)):=by
 have e:=((sS g).add (K:=fun h_=>Tab h_) tb);have hpx:=hx;have hpy:=hy;refine go Tryz.func124 [(0,nv x),(1,nv y)] rfl (aD (lA 2 25 (nc x) e (fun b1 w2 h3 e=>lA 3 25 (nc y) e (fun Z w5 h6 e=>lA 4 25 ([uV 0,eS]) e (fun X w8 h9 e=>ag ?_)))));obtain ⟨K_,hK_⟩:∃ K_,K_=w8.heap.size:=⟨_,rfl⟩;have f6:X<K_:=by rw[hK_];exact ft e 0
 have bn:Z<K_:=by rw[hK_];exact ft e 1
 have bv:b1<K_:=by rw[hK_];exact ft e 2
 refine Bd ⟨[],some (K_,[])⟩ 0 mixed ?_;have j1:=e.g.size;replace e:=e.drew;have V:=Ke hK_;refine zO 0 10 [(2,0,2)] (nv x) rfl V e (fun p hp=>by obtain rfl:=vl.1 hp;exact bv) (zO 2 12 [(1,0,2)] (nv y) rfl V e (fun p hp=>by obtain rfl:=vl.1 hp;exact bn) (sF 1 11 (vO x oM oM _ _ e.g) rfl V ?_));rintro _ _ _ u12 V ⟨H,rfl,df,d0,h7⟩;obtain ⟨_,e,-,-⟩:=e.take u12 df d0;replace e:=e.to [⟨H,23,(wds x).flatMap ar⟩,⟨X,25,[uV 0,eS]⟩,⟨Z,25,nc y⟩,⟨b1,25,nc x⟩] [];refine sF 3 13 (vO y oM oM _ _ e.g) rfl V ?_;rintro _ _ _ u16 V ⟨J,rfl,c7,fx,h2⟩;obtain ⟨_,e,-,-⟩:=e.take u16 c7 fx;replace e:=e.to [⟨J,23,(wds y).flatMap ar⟩,⟨H,23,(wds x).flatMap ar⟩,⟨X,25,[uV 0,eS]⟩,⟨Z,25,nc y⟩,⟨b1,25,nc x⟩] [];refine zV 4 5 (qS (sB H) ((wds x).length) ((wds x).length)) (zV 5 6 (qS (sB J) ((wds y).length) ((wds y).length)) (uy (lL e ae (HW 15 1 e (fun _ g_ f_ U=>sI (sB H) (wds x).length (wds x) (wds x).length rfl (Wd.wds x) (by rw[aI];omega) oM _ _ g_ (f_.1) (SlO.of_flat (sz:=1) (f:=ar) (d:=0) (b:=H) (o:=0) (l:=wds x) (fun _=>rfl) U)) ?_))));rintro _ _ _ e ⟨kx,mx,rfl,htx,hkx⟩;rw[aI] at htx
 refine lL e ae (HW 17 0 e (fun _ g_ f_ U=>sI (sB J) (wds y).length (wds y) (wds y).length rfl (Wd.wds y) (by rw[aI];omega) oM _ _ g_ (f_.1) (SlO.of_flat (sz:=1) (f:=ar) (d:=0) (b:=J) (o:=0) (l:=wds y) (fun _=>rfl) U)) ?_);rintro _ _ _ e ⟨ky,my,rfl,hty,hky⟩;rw[aI] at hty
 refine lV 18 (nV (min kx ky)) ?_ (hr:=ba (n:=if (ky:Int)<(kx:Int) then (ky:Int) else (kx:Int)) kR (by split<;>omega));refine lL e ae (a7 (lL e ae (jg 20 (tY H (wds x) 0 ((wds x).length) ((wds x).length) x hpx oM oM (nR _) (Wd.wds x) (uA _ _ (nR _)) _ _ e.g (e.own 1) (e.jk 1) e.f.1) ?_)));rintro _ _ _ u27 ⟨z24,o24,n24,zl,rfl,f9,cq,ct,b3,⟨hw,dt,u,cb⟩,dc⟩;replace e:=(e.stepM 1 u27 dc).to [⟨J,23,(wds y).flatMap ar⟩,⟨H,23,(z24).flatMap ar⟩,⟨X,25,[uV 0,eS]⟩,⟨Z,25,nc y⟩,⟨b1,25,nc x⟩] [];have bq:=u.odd_pos;have hh:=u.le;refine lL e ae (jg 22 (tY J (wds y) 0 ((wds y).length) ((wds y).length) y hpy oM oM (nR _) (Wd.wds y) (uA _ _ (nR _)) _ _ e.g (e.own 0) (e.jk 0) e.f.1) ?_);rintro _ _ zm u31 ⟨z28,o28,n28,zn,rfl,hj,cr,cf,cp,⟨ht,c6,j,cv⟩,fn⟩;replace e:=(e.stepM 0 u31 fn).to [⟨J,23,(z28).flatMap ar⟩,⟨H,23,(z24).flatMap ar⟩,⟨X,25,[uV 0,eS]⟩,⟨Z,25,nc y⟩,⟨b1,25,nc x⟩] [];have cz:=j.odd_pos;have hc:=j.le;refine lL e aN (ag (kZ ?_));refine bU _ (CG.loop (fun μ_ Γ w_=>∃ (I:Nat)(M:List Nat)(S:Nat)(O:Nat)(c1:Nat)(Q:Nat)(l2:List Nat)(Y:Nat)(W:Nat)(c2:Nat)(C:Nat)(y1:Nat)(h_:Hp),μ_=C+y1/\Γ=[(4,pB X),(7,nV (min kx ky)),(5,qS (some ⟨I,S,none⟩) O c1),(6,qS (some ⟨Q,Y,none⟩) W c2)]/\SS w h w_ h_ [⟨Q,23,(l2).flatMap ar⟩,⟨I,23,(M).flatMap ar⟩,⟨X,25,[uV 0,eS]⟩,⟨Z,25,nc y⟩,⟨b1,25,nc x⟩] [] [fun h_=>Tab h_]/\M.length<=1000000000/\Wd M/\S+O<=M.length/\O<=c1/\win M S O=wds C/\0<C/\l2.length<=1000000000/\Wd l2/\Y+W<=l2.length/\W<=c2/\win l2 Y W=wds y1/\0<y1/\C%2=1/\y1%2=1/\Kq C y1*2^min kx ky=Kq x y) _ ⟨H,z24,o24,n24,zl,J,z28,o28,n28,zn,dt,c6,zm,rfl,rfl,e.to _ _,oM,cq,ct,b3,cb,bq,oM,cr,cf,cp,cv,cz,u.2,j.2,(by rw[(htx.uniq u).1,(hty.uniq j).1];exact (vT u j).symm)⟩ ?_);rintro _ _ _ ⟨I,M,S,O,c1,Q,l2,Y,W,c2,C,y1,_,h8,rfl,e,hl1,hW1,B,bb,i,hx1,hl2,hW2,L,bf,k,hy1,hxo,hyo,hG⟩;have h4:=nk C y1;have c9:=congrArg Kw i;rw[bP B] at c9
 have c4:=congrArg Kw k;rw[bP L] at c4
 refine kZ (ab e aN (Ix 25 1 0 e (fun _ g_ f_ U sh_=>uz (some ⟨I,S,none⟩) c1 (some ⟨Q,Y,none⟩) c2 C y1 O W (win M S O) (win l2 Y W) i k (bP B) (bP L) oM oM _ _ g_ (SlO.win (f:=ar) (d:=0) (b:=I) (l:=M) (fun _=>rfl) U S O) (SlO.win (f:=ar) (d:=0) (b:=Q) (l:=l2) (fun _=>rfl) sh_ Y W)) ?_));rintro _ _ _ e rfl;refine lL e ae (ag (ab e ae ?_));cases za:((cA C y1:Int) == (0:Int))
 .
  have zd:=ah za;refine lB 27 za (ai (cK (cQ (ab e ae ?_))));cases zb:(decide ((cA C y1:Int)<(0:Int)))
  .
   have ze:=oF zb;refine lB 29 zb (ai (cK (kQ (lL e aN (G6 34 1 0 e (fun _ g_ f_ hj_ sh_=>Ae I M S O c1 C oM B bb hW1 i (some ⟨Q,Y,none⟩) c2 y1 W (win l2 Y W) k (bP L) bf oM _ _ g_ (e.own 1) hj_ (SlO.win (f:=ar) (d:=0) (b:=Q) (l:=l2) (fun _=>rfl) sh_ Y W)) ?_)))));rintro _ _ _ u44 ⟨s41,c5,db,fm,rfl,f0,cm,cx,b9,cy,zi⟩;replace e:=(e.stepM 1 u44 zi).to [⟨Q,23,(l2).flatMap ar⟩,⟨I,23,(s41).flatMap ar⟩,⟨X,25,[uV 0,eS]⟩,⟨Z,25,nc y⟩,⟨b1,25,nc x⟩] [];refine jg 35 (tY I s41 c5 db fm (C-y1) oM oM cx b9 cm cy _ _ e.g (e.own 1) (e.jk 1) e.f.1) ?_;rintro _ _ zo u48 ⟨z45,o45,n45,zp,rfl,hb,b5,ck,bl,⟨hq,d1,F,bw⟩,c8⟩;replace e:=(e.stepM 1 u48 c8).to [⟨Q,23,(l2).flatMap ar⟩,⟨I,23,(z45).flatMap ar⟩,⟨X,25,[uV 0,eS]⟩,⟨Z,25,nc y⟩,⟨b1,25,nc x⟩] [];have cd:=F.odd_pos;have f8:=F.le;refine lL e ae (lD ?_);intro a_ ka;refine ⟨_,_,?_,⟨I,z45,o45,n45,zp,Q,l2,Y,W,c2,d1,y1,zo,rfl,rfl,e.to _ _,oM,b5,ck,bl,bw,cd,oM,hW2,L,bf,k,hy1,F.2,hyo,(by rw[tm oM hyo F];exact hG)⟩,ka.to _ kR⟩
   omega
  have ze:=oT zb;refine lB 29 zb (au (kQ (lL e nK (lN (kQ (lL e aN (G6 34 0 1 e (fun _ g_ f_ hj_ sh_=>Ae Q l2 Y W c2 y1 oM L bf hW2 k (some ⟨I,S,none⟩) c1 C O (win M S O) i (bP B) bb oM _ _ g_ (e.own 0) hj_ (SlO.win (f:=ar) (d:=0) (b:=I) (l:=M) (fun _=>rfl) sh_ S O)) ?_)))))));rintro _ _ _ u67 ⟨s64,dp,fk,ds,rfl,hm,c3,cl,bm,bt,zj⟩;replace e:=(e.stepM 0 u67 zj).to [⟨Q,23,(s64).flatMap ar⟩,⟨I,23,(M).flatMap ar⟩,⟨X,25,[uV 0,eS]⟩,⟨Z,25,nc y⟩,⟨b1,25,nc x⟩] [];refine jg 35 (tY Q s64 dp fk ds (y1-C) oM oM cl bm c3 bt _ _ e.g (e.own 0) (e.jk 0) e.f.1) ?_;rintro _ _ zq u71 ⟨z68,o68,n68,zr,rfl,hl,ch,b2,c0,⟨hn,dn,D,b0⟩,d2⟩;replace e:=(e.stepM 0 u71 d2).to [⟨Q,23,(z68).flatMap ar⟩,⟨I,23,(M).flatMap ar⟩,⟨X,25,[uV 0,eS]⟩,⟨Z,25,nc y⟩,⟨b1,25,nc x⟩] [];have b6:=D.odd_pos;have f7:=D.le;refine lL e ae (lD ?_);replace e:=e.perm (List.Perm.swap _ _ _);intro a_ ka;refine ⟨_,_,?_,⟨Q,z68,o68,n68,zr,I,M,S,O,c1,dn,C,zq,rfl,rfl,e.to _ _,oM,ch,b2,c0,b0,b6,oM,hW1,B,bb,i,hx1,D.2,hxo,(by rw[tm oM hxo D,Kb];exact hG)⟩,ka.to _ kR⟩
  omega
 have zd:=eq_of_beq za;refine lB 27 za (au (CG.exit ?_))
 show CG _ _ _ _ _ _ _ _
 refine ab e ae (HW 37 1 e (fun _ g_ f_ U=>HF (some ⟨I,S,none⟩) c1 (win M S O) O C i (bP B) oM _ _ g_ (SlO.win (f:=ar) (d:=0) (b:=I) (l:=M) (fun _=>rfl) U S O)) ?_);rintro _ _ _ e rfl;refine lA 9 25 ([uV 0,eS]) e (fun zg _ zs e=>lP 0 0 (nc C) e (fun _ e=>ag (kZ ?_)));refine bU _ (CG.loop (fun μ_ Γ w_=>∃ (z:Int)(a:Nat)(h_:Hp),μ_=z.toNat/\Γ=[(4,pB X),(9,pB zg),(7,iV z)]/\SS w h w_ h_ [⟨zg,25,nc a⟩,⟨Q,23,(l2).flatMap ar⟩,⟨I,23,(M).flatMap ar⟩,⟨X,25,[uV 0,eS]⟩,⟨Z,25,nc y⟩,⟨b1,25,nc x⟩] [] [fun h_=>Tab h_]/\z<=64000000000/\a*2^z.toNat=Kq x y) _ ⟨((min kx ky:Nat):Int),C,zs,rfl,rfl,e.to _ _,oM,(by rw[show C=y1 by omega,Nat.gcd_self] at hG;rw[show C=y1 by omega];rw[show (((min kx ky:Nat):Int)).toNat=min kx ky by omega];exact hG)⟩ ?_);rintro _ _ _ ⟨z,a,_,h5,rfl,e,hz,ha⟩;refine cQ (ab e ae ?_);cases zc:(decide ((0:Int)<(z:Int)))
 .
  have zf:=oF zc;refine lB 39 zc (ai (CG.exit ?_))
  show CG _ _ _ _ _ _ _ _
  exact ab e [.o (nv a) 0 0 2] (lP 3 0 (nc a) e (fun _ e=>af e [(3,0,2)] (nv a) (by rw[show z.toNat=0 by omega,J9,JN] at ha;rw[ha])))
 have zf:=oT zc;refine lB 39 zc (au (cK (cQ (kZ (kQ (lL e [.o (nv a) 0 0 2,.c] (lV 44 (nV (min z.toNat 65536)) ?_ (hr:=ba (n:=if (65536:Int)<z then (65536:Int) else z) kR (by split<;>omega)))))))));refine ak 45 e (Ee a (min z.toNat 65536) (by have:=dh (show a<=x by exact e6 (Nat.le_mul_of_pos_right a (H1 z.toNat)) (by rw[ha];exact Kx y hx));omega) oM _ _ e.g) (fun _ zk e=>lP 0 0 (nc (a*2^min z.toNat 65536)) e (fun _ e=>lN (kQ (lL e ae (lI 41 (z-65536) ?_)))));refine lL e ae (lD ?_);intro a_ ka;refine ⟨_,_,?_,⟨z-65536,a*2^min z.toNat 65536,zk,rfl,rfl,e.to _ _,oM,(by rw[Ft,<-Jw,show min z.toNat 65536+(z-65536).toNat=z.toNat by omega];exact ha)⟩,ka.to _ kR⟩
 omega
theorem mG (n:Nat):(n=0/\nb n=0)\/(0<n/\0<nb n):=by
 rcases zT n with h|h
 ·subst h;exact .inl ⟨rfl,rfl⟩
 ·exact .inr ⟨h,(cW h).2.2⟩
theorem j4 (x y:Nat):Kq y (x%y)=Kq x y:=by rw[Kb y,<-Nat.gcd_rec,Kb]
theorem EY (n:Nat)(w:World)(h:Hp)(g:G w h):CR 123 #[nv n] w h (fun v _=>∃ s:Nat,∃ ok:Bool,v=.tuple #[mV s,.bool ok]/\(ok=true->s=n/\n<18446744073709551616)):=by
 rcases ep n 18446744073709551616 with hn|hn
 ·refine (tf n hn w h g).mono ?_
  rintro _ w' ⟨_,h',rfl,u,rfl⟩;exact ⟨_,h',rfl,u,n,true,rfl,fun _=>⟨rfl,hn⟩⟩
 ·refine (Bu n hn w h g).mono ?_
  rintro _ w' ⟨_,h',rfl,u,rfl⟩;exact ⟨_,h',rfl,u,0,false,rfl,fun e=>by cases e⟩
theorem IB (a b:Int)(hla:(wds (ac a)).length<=1000000000)(hlb:(wds (ac b)).length<=1000000000)(w:World)(h:Hp)(g:G w h)(tb:Tab h):CV 76 #[iv a,iv b] w h (nv (Kq (ac a) (ac b))):=by
 have d:=((sS g).add (K:=fun B=>Tab B) tb);refine go Tryz.func76 [(0,iv a),(1,iv b)] rfl (aD (lA 2 27 (ic a) d (fun Z w2 h3 d=>lA 3 27 (ic b) d (fun Y w5 h6 d=>lA 4 25 ([uV 0,eS]) d (fun U w8 h9 d=>ag ?_)))));have l:=d;refine kT 6 [⟨4,5,.cells (Ky [uV 0,eS]) 25 (0,0)⟩,⟨5,6,.cells (Ky [uV 0,eS]) 25 (0,0)⟩] [] mixed d (aZ (dB kR (fun _ _=>by kernel_rfl)) (aZ (dB kR (fun _ _=>by kernel_rfl)) ao)) (eV 0 14 (qP Z 1) (eO 1 15 [(2,1,2)] (nv (ac a)) d (eV 2 16 (qP Y 1) (jW 3 17 [(1,1,2)] (nv (ac b)) l d (xd l d 25 [uV 0,eS] 25 [uV 0,eS] (fun _ _ L J O H d=>tP 6 0 0 (nc (ac a)) d (fun _ d=>?_) (hz:=fb O)))))));refine tP 7 1 0 (nc (ac b)) d (fun _ d=>?_) (hz:=fb H);refine tN (CG.join (fun Γ X=>∃ (x:Nat)(y:Nat)(B:Hp),Γ=[(4,pB U),(6,pB J),(5,pB L)]/\SS w h X B [⟨L,25,nc x⟩,⟨J,25,nc y⟩,⟨U,25,[uV 0,eS]⟩,⟨Y,27,ic b⟩,⟨Z,27,ic a⟩] [] [fun B=>Tab B]/\(wds x).length<=1000000000/\(wds y).length<=1000000000/\Kq x y=Kq (ac a) (ac b)) ?_ ?_)
 .
  refine ab d [.o (nv (ac a)) 0 0 2,.o (nv (ac b)) 1 0 2] (ak 20 d (mN (ac a) (ac b) aM aM _ _ d.g) (fun _ zm d=>?_));have hcm:=nk (ac a) (ac b);cases za:(decide ((cA (ac a) (ac b):Int)<(0:Int)))
  .
   have zi:=oF za;refine lB 21 za (ai (CG.skip ?_));intro a_ I;exact ⟨_,⟨(ac a),(ac b),zm,rfl,d.to _ _,aM,aM,(by first|rfl|exact Kb _ _)⟩,I.to _ kR⟩
  have zi:=oT za;refine lB 21 za (au (kQ (lL d [.o (nv (ac b)) 1 0 2,.o (nv (ac a)) 0 0 2] (lP 0 0 (nc (ac b)) d (fun _ d=>lP 1 0 (nc (ac a)) d (fun _ d=>lD ?_))))));intro a_ I;exact ⟨_,⟨(ac b),(ac a),zm,rfl,d.to _ _,aM,aM,(by first|rfl|exact Kb _ _)⟩,I.to _ kR⟩
 rintro _ _ ⟨x,y,_,rfl,d,hlx,hly,F⟩;refine cQ (ab d [.o (nv y) 1 0 2] (ak 25 d (fV y (by first|assumption|exact ax (Kz (y5 _ oM)) aM) _ _ d.g) (fun _ _ d=>?_)));have bb:=mG y;cases zb:(((nb y:Nat):Int) == (0:Int))
 .
  have zj:=ah zb;refine lB 26 zb (ai (cK (ab d [.o (nv x) 0 0 2,.o (nv y) 1 0 2] (ak 31 d (HQ x y oM aM aM _ _ d.g) (fun _ _ d=>?_)))));have hmd:=y5 x (show 0<y by omega);refine lL d [.c,.v (nv (x/y)),.v (nv (x%y)),.v qT] (lA 7 25 ([uV 0,eS]) d (fun zn _ _ d=>lA 8 25 ([uV 0,eS]) d (fun zo _ _ d=>lP 1 0 (nc (x/y)) d (fun _ d=>lP 0 0 (nc (x%y)) d (fun _ d=>lL d ae (ag ?_))))));have l:=d;refine kT 2 [] [L,J] mixed d ao (eO 0 35 [(3,0,2)] (nv y) d (jW 1 36 [(0,0,2)] (nv (x%y)) l d ?_ (hM:=fun p W=>by obtain rfl:=vl.1 W;exact fun M=>by rcases hP.1 M with e|M;exact bJ d.st (i:=0) (j:=2) kR kR kR e;rcases hP.1 M with e|M;exact bJ d.st (i:=0) (j:=3) kR kR kR e;cases M)));refine ce d (fun _ _ d=>tP 2 2 0 (nc y) d (fun _ d=>?_) (hz:=a6 (Kf)));refine tP 3 3 0 (nc (x%y)) d (fun _ d=>?_) (hz:=a6 (Kg _<|Kf));refine tN (cQ (aD ?_));have D:Kq y (x%y)=Kq (ac a) (ac b):=by rw[<-F];exact j4 _ _
  refine lL d [.o (nv (x%y)) 3 0 2] (ak 38 d (fV (x%y) (by first|assumption|exact ax (Kz (y5 _ oM)) aM) _ _ d.g) (fun _ _ d=>?_));have bl:=mG (x%y);cases S:(((nb (x%y):Nat):Int) == (0:Int))
  .
   have zk:=ah S;refine lB 39 S (ai (cK (cQ (ab d [.o (nv y) 2 0 2] (lC 43 d (EY y _ _ d.g) ?_)))));rintro _ _ _ d ⟨sp,ok,rfl,z⟩;refine lL d [.c,.v (mV sp),.v (.bool ok),.c,.c] (a7 (lL d ae (lN ?_)));cases V:(ok)
   .
    try rw[V] at d
    try rw[V]
    exact dv (cK (ab d [.o (nv y) 2 0 2,.o (nv (x%y)) 3 0 2] (ak 62 d (Cl y (x%y) oM oM (by first|assumption|exact ax (Kz (y5 _ oM)) aM) (by first|assumption|exact ax (Kz (y5 _ oM)) aM) _ _ d.g d.f.1) (fun _ _ d=>lP 4 0 (nc (Kq y (x%y))) d (fun _ d=>af d [(4,0,2)] (nv (Kq y (x%y))) (congrArg nv D))))))
   try rw[V] at d
   try rw[V]
   refine bT (ab d [.o (nv (x%y)) 3 0 2] (ak 49 d (tf (x%y) (by have C:=z aM;omega) _ _ d.g) (fun _ zp d=>lL d [.c,.v (mV (x%y)),.v qT,.c,.c] (ag (kZ ?_)))));refine bU _ (CG.loop (fun μ_ Γ X=>∃ (p:Nat)(q:Nat)(B:Hp),μ_=q/\Γ=[(4,pB U),(6,pB J),(5,pB L),(10,mV p),(12,mV q)]/\SS w h X B [⟨zo,25,nc (x%y)⟩,⟨zn,25,nc (x/y)⟩,⟨L,25,nc y⟩,⟨J,25,nc (x%y)⟩,⟨U,25,[uV 0,eS]⟩,⟨Y,27,ic b⟩,⟨Z,27,ic a⟩] [] [fun B=>Tab B]/\p<18446744073709551616/\q<18446744073709551616/\Kq p q=Kq (ac a) (ac b)) _ ⟨sp,(x%y),zp,rfl,rfl,d.to _ _,(by have C:=z aM;omega),(by have C:=z aM;omega),(by rw[(z aM).1];exact D)⟩ ?_);rintro _ _ _ ⟨p,q,_,bf,rfl,d,W,hq,hG⟩;refine cQ (ab d ae ?_);cases Q:(decide ((0:Int)<(q:Int)))
   .
    have zl:=oF Q;refine lB 53 Q (ai (CG.exit ?_))
    show CG _ _ _ _ _ _ _ _
    exact ab d ae (ak 59 d (H5 p W _ _ d.g) (fun _ _ d=>lP 4 0 (nc p) d (fun _ d=>af d [(4,0,2)] (nv p) (congrArg nv (by rw[<-hG,show q=0 by omega,KA])))))
   have zl:=oT Q;refine lB 53 Q (au (cK (kZ (cR 4 [] mixed d ao ?_))));refine eV 0 54 (mV q) (eV 1 55 (mV p) (eV 2 56 (mV q) (eV 3 57 (mV (p%q)) ?_ (hv:=fun _=>ba (gn (t:=23) (u:=23) (x:=.tmp 55) (y:=.tmp 56) (k:=.u64) (a:=(p:Int)) (b:=(q:Int)) kR kR kR oM _) (dY p q)))));refine ce d (fun _ zq d=>tV 4 10 (mV q) (tV 5 12 (mV (p%q)) (tD ?_)));intro a_ I;refine ⟨_,_,?_,⟨q,p%q,zq,rfl,rfl,d.to _ _,hq,(by have:=y5 p (show 0<q by omega);omega),(by rw[j4];exact hG)⟩,I.to _ kR⟩;have bm:=y5 p (show 0<q by omega)
   omega
  have zk:=eq_of_beq S;exact lB 39 S (au (ab d [.o (nv y) 2 0 2] (lP 4 0 (nc y) d (fun _ d=>af d [(4,0,2)] (nv y) (congrArg nv (by rw[<-D,show (x%y)=0 by omega,KA]))))))
 have zj:=eq_of_beq zb;exact lB 26 zb (au (ab d [.o (nv x) 0 0 2] (lP 2 0 (nc x) d (fun _ d=>af d [(2,0,2)] (nv x) (congrArg nv (by rw[<-F,show y=0 by omega,KA]))))))
theorem rp (z:Int)(b:Nat)(hd:(b:Int)∣z):cM (decide (z.sign<0)) (ac z/b)=z/b:=by
 obtain ⟨k,rfl⟩:=hd
 rcases zT b with hb|hb
 ·subst hb;simp[cM,ac]
 have e1:ac ((b:Int)*k)/b=k.natAbs:=by
  unfold ac
  rw[KB,KC,Ku _ hb]
 have e2:((b:Int)*k)/b=k:=KD _ oM;have a:((b:Int)*k).sign=k.sign:=by rw[Int.sign_mul,Int.sign_natCast_of_ne_zero oM,Int.one_mul]
 rw[e1,e2,a]
 unfold cM
 rcases KE k 0 with h|h|h
 ·rw[Kl h];simp;omega
 ·subst h;simp
 ·rw[Km h];simp;omega
theorem lk (a b:Rat):∀ g h:Nat,∀ up:Int,g=Kq a.den b.den->up=a.num*((b.den/g:Nat):Int)+b.num*((a.den/g:Nat):Int)->h=Kq (ac up) g ->
    (a+b).num=up/h/\(a+b).den=(a.den/g)*(b.den/h)/\(h:Int)∣up/\h∣b.den/\0<h/\0<g:=by
  intro g h up c d e;have i:0<g:=by rw[c];exact Nat.gcd_pos_of_pos_left _ a.den_pos
  have l:0<h:=by rw[e];exact KF _ i
  have x:g∣a.den:=by rw[c];exact KG _ _
  have o:g∣b.den:=by rw[c];exact KH _ _
  have p:h∣g:=by rw[e];exact KH _ _
  have k:(h:Int)∣up:=by
    have h1:h∣up.natAbs:=by rw[e];exact KG _ _
    exact KI (KJ.2 h1) (KK.2 (KL _))
  have j:h∣b.den:=Nat.dvd_trans p o;refine ⟨?_,?_,k,j,l,i⟩
  . show (KM a b).num=_
    delta KM
    dsimp only
    split
    . rename_i h1
      have u:g=1:=by rw[c];exact h1
      dsimp only
      clear h1 c
      subst u;have f:h=1:=by rw[e];simp
      rw[f,d];simp
    . subst c d e
      dsimp only[KN]
      split
      . rename_i h1
        dsimp only
        unfold ac
        rw[h1];simp
      . dsimp only
        rw[KO]
        rfl
  . show (KM a b).den=_
    delta KM
    dsimp only
    split
    . rename_i h1
      have u:g=1:=by rw[c];exact h1
      dsimp only
      clear h1 c
      subst u;have f:h=1:=by rw[e];simp
      rw[f];simp
    . subst c d e
      dsimp only[KN]
      split
      . rename_i h1
        dsimp only
        unfold ac
        rw[h1];simp
      . dsimp only
        rw[KP]
        unfold ac at *
        rw[Nat.mul_div_assoc _ j]
theorem lu (a b:Rat):∀ g h:Nat,g=Kq (ac a.num) b.den->h=Kq (ac b.num) a.den ->
  (a*b).num=(a.num/g)*(b.num/h)/\(a*b).den=(a.den/h)*(b.den/g)/\(g:Int)∣a.num/\(h:Int)∣b.num/\0<g/\0<h:=by
 intro g h d c;have f:0<g:=by rw[d];exact KF _ b.den_pos
 have e:0<h:=by rw[c];exact KF _ a.den_pos
 have i:(g:Int)∣a.num:=by
  have h1:g∣a.num.natAbs:=by rw[d];exact KG _ _
  exact KI (KJ.2 h1) (KK.2 (KL _))
 have j:(h:Int)∣b.num:=by
  have h1:h∣b.num.natAbs:=by rw[c];exact KG _ _
  exact KI (KJ.2 h1) (KK.2 (KL _))
 refine ⟨?_,?_,i,j,f,e⟩
 ·show (KQ a b).num=_
  delta KQ
  dsimp only
  rw[KO,KO,d,c];rfl
 ·show (KQ a b).den=_
  delta KQ
  dsimp only
  rw[KP,KP,d,c];rfl
theorem gu (n:Int)(d:Nat)(hd:0<d):(mkRat n d).num=n/(Kq (ac n) d:Nat)/\(mkRat n d).den=d/Kq (ac n) d/\((Kq (ac n) d:Nat):Int)∣n/\0<Kq (ac n) d:=by
 have a:((Kq (ac n) d:Nat):Int)∣n:=by
  have h1:Kq (ac n) d∣n.natAbs:=KG _ _;exact KI (KJ.2 h1) (KK.2 (KL _))
 unfold mkRat
 rw[dif_neg oM,Rat.normalize_eq];exact ⟨rfl,rfl,a,KF _ hd⟩
theorem ux (b:Rat)(h:b.num≠0):(b⁻¹).num=cM (decide (b.num.sign<0)) b.den/\(b⁻¹).den=ac b.num:=by
 have e:b⁻¹=Rat.inv b:=rfl;rw[e]
 delta Rat.inv
 split
 ·rename_i h1
  rw[Kl h1];simp[cM,ac]
 ·split
  ·rename_i h1
   rw[Km h1];simp[cM,ac]
  ·omega
def LQ (k:Nat)(q:Rat):Prop:=(wds (ac q.num)).length<=k/\(wds q.den).length<=k
theorem eF (n:Nat)(w:World)(h:Hp)(g:G w h):CV 50 #[.bool false,nv n] w h (iv (n:Int)):=pn n w h g
theorem jT (x y:Int)(d:Nat)(hd:d=Kq (ac x) (ac y))(b:(wds (ac x)).length<=1000000000)(a:(wds (ac y)).length<=1000000000)(w:World)(h:Hp)(g:G w h)(c:Tab h):CV 76 #[iv x,iv y] w h (nv d):=by
 subst hd;exact IB x y b a w h g c
theorem wA {n:Nat}:nb n=1↔n=1:=by
 rcases zT n with h|h
 ·subst h;simp[nb]
 ·have h1:=cW h
  constructor
  ·intro e;rw[e] at h1;omega
  ·intro e;subst e;rfl
theorem rx {n:Nat}:nb n=0↔n=0:=by
 rcases mG n with ⟨h1,h2⟩|⟨h1,h2⟩<;>omega
theorem kr {q:Rat}(h:q.den=1):qd q=0:=by unfold qd;rw[if_pos h]
theorem DM {q:Rat}(h:q.den≠1):qd q=q.den:=by unfold qd;rw[if_neg h]
theorem Ci {q:Rat}:qd q=0↔q.den=1:=by
 unfold qd
 have:=q.den_pos
 split<;>omega
theorem Js (q:Rat):(((nb (qd q):Nat):Int) == (0:Int))=decide (q.den=1):=by
 rw[Bool.eq_iff_iff]
 simp only[beq_iff_eq,decide_eq_true_eq]
 rw[<-Ci,<-rx]
 omega
theorem ib {q:Rat}{z:Int}{d:Nat}(hz:q.num=z)(hd:qd q=d):Value.agg #[.bool (av z),.int .u64 (lo (ac z)),.string (hi (ac z)),.int .u64 (lo d),.string (hi d)]=qv q:=by subst hz hd;rfl
theorem LQ.qd {k:Nat}{q:Rat}(h:LQ k q):(wds (qd q)).length<=k:=by
 unfold Go.Proofs.YteipbelehcpooaaGreatDoor.qd
 split
 ·exact JU _
 ·exact h.2
theorem HI (a:Rat)(e:LQ 1000000000 a)(w:World)(h:Hp)(g:G w h):CV 78 #[iv a.num,nv a.den] w h (qv a):=by
 have b:=sS g;obtain ⟨c,i⟩:=e;have f:=@wA a.den;refine go Tryz.func78 [(0,iv a.num),(1,nv a.den)] rfl (aD (lA 2 27 (ic a.num) b (fun p w2 z b=>lA 3 25 (nc a.den) b (fun k l x b=>lA 4 29 ca b (fun y u j b=>ag (ab b [.o (nv a.den) 1 0 2] (ak 6 b (fV a.den cP _ _ b.g) (fun _ _ b=>?_))))))));cases za:(((nb a.den:Nat):Int) == (1:Int))
 .
  have zb:=ah za;exact lB 7 za (ai (cK (ab b [.o (iv a.num) 2 0 3,.o (nv a.den) 1 0 2,.v (.agg #[.bool (av a.num),uV (lo (ac a.num)),.string (hi (ac a.num)),uV (lo a.den),.string (hi a.den)])] (lP 0 0 ([.bool (av a.num),uV (lo (ac a.num)),.string (hi (ac a.num)),uV (lo a.den),.string (hi a.den)]) b (fun _ b=>af b [(0,0,5)] (.agg #[.bool (av a.num),uV (lo (ac a.num)),.string (hi (ac a.num)),uV (lo a.den),.string (hi a.den)]) (ib (q:=a) (d:=a.den) rfl (DM oM)))))))
 have zb:=eq_of_beq za;exact lB 7 za (au (ab b [.o (iv a.num) 2 0 3,.v (.agg #[.bool (av a.num),uV (lo (ac a.num)),.string (hi (ac a.num)),uV 0,eS])] (lP 0 0 ([.bool (av a.num),uV (lo (ac a.num)),.string (hi (ac a.num)),uV 0,eS]) b (fun _ b=>af b [(0,0,5)] (.agg #[.bool (av a.num),uV (lo (ac a.num)),.string (hi (ac a.num)),uV 0,eS]) (ib (q:=a) (d:=0) rfl (kr oM))))))
theorem kd (q:Rat)(z:Int)(d:Nat)(hz:q.num=z)(hd:d=q.den)(a:LQ 1000000000 q)(w:World)(h:Hp)(g:G w h):CV 78 #[iv z,nv d] w h (qv q):=by
 subst hz hd;exact HI q a w h g
theorem cc (z:Int)(g:Nat)(hd:(g:Int)∣z):ac (z/g)<=ac z:=by
 unfold ac
 rcases zT g with h|h
 ·subst h;simp
 ·obtain ⟨k,rfl⟩:=hd
  rw[KD _ oM,KB,KC];exact Kv _ h
theorem iq (a b:Nat)(y:0<b)(e:(wds a).length<=1000000000)(k:(wds b).length<=1000000000)(w:World)(h:Hp)(g:G w h):CV 77 #[nv a,nv b] w h (nv (a/b)):=by
 have d:=sS g;have j:=@wA b;refine go Tryz.func77 [(0,nv a),(1,nv b)] rfl (aD (lA 2 25 (nc a) d (fun x w2 C d=>lA 3 25 (nc b) d (fun p u z d=>lA 4 25 ([uV 0,eS]) d (fun B D l d=>ag (ab d [.o (nv b) 1 0 2] (ak 9 d (fV b cP _ _ d.g) (fun _ _ d=>?_))))))));cases za:(((nb b:Nat):Int) == (1:Int))
 .
  have zb:=ah za;exact lB 10 za (ai (cK (ab d [.o (nv a) 2 0 2,.o (nv b) 1 0 2] (ak 15 d (HQ a b oM aM aM _ _ d.g) (fun _ _ d=>lL d [.c,.v (nv (a/b)),.v (nv (a%b)),.v qT] (lA 5 25 ([uV 0,eS]) d (fun i _ _ d=>lA 6 25 ([uV 0,eS]) d (fun f _ _ d=>lP 1 0 (nc (a/b)) d (fun _ d=>lP 0 0 (nc (a%b)) d (fun _ d=>lL d ae (a7 (lL d [.o (nv (a/b)) 1 0 2] (lP 2 0 (nc (a/b)) d (fun _ d=>af d [(2,0,2)] (nv (a/b)) rfl))))))))))))))
 have zb:=eq_of_beq za;exact lB 10 za (au (ab d [.o (nv a) 2 0 2] (lP 0 0 (nc a) d (fun _ d=>af d [(0,0,2)] (nv a) (by rw[show b=1 by omega,Nat.div_one])))))
theorem m7 (z:Int)(b:Nat)(l:0<b)(hd:(b:Int)∣z)(c:(wds (ac z)).length<=1000000000)(e:(wds b).length<=1000000000)(w:World)(h:Hp)(g:G w h):CV 79 #[iv z,nv b] w h (iv (z/b)):=by
 have a:=sS g;have d:(wds (ac z/b)).length<=1000000000:=ax (Bb _ _) c;refine go Tryz.func79 [(0,iv z),(1,nv b)] rfl (aD (lA 2 27 (ic z) a (fun k w2 u a=>lA 3 25 (nc b) a (fun i j o a=>lA 4 27 ([qF,uV 0,eS]) a (fun p x f a=>ag (cR 8 [] mixed a ao ?_))))));exact eO 0 5 [(2,0,3)] (iv z) a (eO 3 8 [(2,0,3)] (iv z) a (eO 5 10 [(1,0,2)] (nv b) a (aj 1 6 a (fun _ _ a=>mL z cP _ _ a.g) (fun _ _ a=>eV 2 7 (.bool (decide (((z).sign:Int)<(0:Int)))) (aj 4 9 a (fun _ _ a=>uM z _ _ a.g) (fun _ _ a=>aj 6 11 a (fun _ _ a=>iq (ac z) b aM cP cP _ _ a.g) (fun _ _ a=>aj 7 12 a (fun _ _ a=>gc (decide (((z).sign:Int)<(0:Int))) ((ac z)/b) cP _ _ a.g) (fun _ _ a=>ce a (fun _ _ a=>tP 8 0 0 (ic (cM (decide (((z).sign:Int)<(0:Int))) ((ac z)/b))) a (fun _ a=>tN (kX (a.ret [(0,0,3)] (iv (cM (decide (((z).sign:Int)<(0:Int))) ((ac z)/b))) (congrArg iv (rp z b hd))))))))))))))
theorem iF (z:Int)(d:Nat)(e:(wds (ac z)).length+(wds d).length<=1000000000)(w:World)(h:Hp)(g:G w h):CV 45 #[iv z,nv d] w h (iv (z*d)):=by
 have a:=sS g;refine go Tryz.func45 [(0,iv z),(1,nv d)] rfl (aD (lA 2 27 (ic z) a (fun j w2 k a=>lA 3 25 (nc d) a (fun c i f a=>lA 4 27 ([qF,uV 0,eS]) a (fun b o l a=>ag (cR 4 [] mixed a ao ?_))))));exact eO 0 5 [(2,0,3)] (iv z) a (eO 1 6 [(1,0,2)] (nv d) a (aj 2 7 a (fun _ _ a=>eF d _ _ a.g) (fun _ _ a=>aj 3 8 a (fun _ _ a=>Ch z (d:Int) cP _ _ a.g) (fun _ _ a=>ce a (fun _ _ a=>tP 4 0 0 (ic (z*(d:Int))) a (fun _ a=>tN (kX (a.ret [(0,0,3)] (iv (z*(d:Int))) rfl))))))))
theorem jM (a:Rat)(f:LQ 100000000 a)(w:World)(h:Hp)(g:G w h):CV 43 #[qv a] w h (.bool (decide (a.den=1))):=by
 have b:=sS g;have d:=f.qd;exact go Tryz.func43 [(0,qv a)] rfl (aD (lA 1 29 (qc a) b (fun e w2 j b=>lL b ae (a7 (lL b [.v (qP e 3),.o (nv (qd a)) 0 3 2] (ak 5 b (fV (qd a) cP _ _ b.g) (fun k i b=>lL b [.v (.bool (((nb (qd a):Nat):Int) == (0:Int))),.c] (af b [] (.bool (((nb (qd a):Nat):Int) == (0:Int))) (congrArg Value.bool (Js a))))))))))
theorem fB (a:Rat)(p:LQ 100000000 a)(w:World)(h:Hp)(g:G w h):CV 46 #[qv a] w h (nv a.den):=by
 have b:=sS g;refine go Tryz.func46 [(0,qv a)] rfl (aD (lA 1 29 (qc a) b (fun e w2 l b=>lA 2 25 ([uV 0,eS]) b (fun i k j b=>ag (ab b [.o (qv a) 1 0 5] (ak 4 b (jM a aM _ _ b.g) (fun u f b=>?_)))))));cases d:(decide (a.den=1))
 .
  have c:=oF d;exact ai (cK (ab b [.v (qP e 3),.o (nv (qd a)) 1 3 2] (lP 0 0 (nc (qd a)) b (fun _ b=>af b [(0,0,2)] (nv (qd a)) (by rw[DM (by simpa using (by assumption:decide (a.den=1)=false))])))))
 have c:=oT d;exact au (aD (ak 5 b (H5 1 oM _ _ b.g) (fun _ _ b=>lP 0 0 (nc 1) b (fun _ b=>af b [(0,0,2)] (nv 1) (by rw[show a.den=1 by simpa using (by assumption:decide (a.den=1)=true)])))))
theorem IQ (a:Rat)(w:World)(h:Hp)(g:G w h):CV 161 #[qv a] w h (iv a.num):=by
 have b:=sS g;exact go Tryz.func161 [(0,qv a)] rfl (aD (lA 1 29 (qc a) b (fun c w2 i b=>lA 2 27 ([qF,uV 0,eS]) b (fun d f e b=>a7 (lL b [.v (pB c),.o (iv a.num) 1 0 3] (lP 0 0 (ic a.num) b (fun j b=>af b [(0,0,3)] (iv a.num) rfl)))))))
theorem en (a:Rat)(d:LQ 100000000 a)(w:World)(h:Hp)(g:G w h):CV 33 #[qv a] w h (iV a.num.sign):=by
 have b:=sS g;obtain ⟨e,f⟩:=d;exact go Tryz.func33 [(0,qv a)] rfl (aD (lA 1 29 (qc a) b (fun c w2 j b=>lL b ae (a7 (lL b [.v (pB c),.o (iv a.num) 0 0 3] (ak 5 b (mL a.num cP _ _ b.g) (fun k i b=>lL b ae (af b [] (iV ((a.num).sign)) rfl))))))))
theorem oA (z:Int)(h0 : -9223372036854775808<=z)(h1:z<=9223372036854775807)(w:World)(h:Hp)(g:G w h):CV 12 #[iV z] w h (qv (z:Rat)):=by
 have a:=sS g;exact go Tryz.func12 [(0,iV z)] rfl (aD (lA 2 29 ca a (fun e w2 f a=>a7 (lL a ae (ak 4 a (Jm z oM oM _ _ a.g) (fun i b a=>lL a [.v (.agg #[.bool (av z),uV (lo (ac z)),.string (hi (ac z)),uV 0,eS])] (lP 0 0 ([.bool (av z),uV (lo (ac z)),.string (hi (ac z)),uV 0,eS]) a (fun c a=>af a [(0,0,5)] (.agg #[.bool (av z),uV (lo (ac z)),.string (hi (ac z)),uV 0,eS]) (ib (d:=0) (KR z) (kr (KS z)))))))))))
theorem uZ (a:Rat)(d:LQ 100000000 a)(w:World)(h:Hp)(g:G w h):CV 82 #[qv a] w h (qv (-a)):=by
 have b:=sS g;obtain ⟨e,f⟩:=d;refine go Tryz.func82 [(0,qv a)] rfl (aD (lA 1 29 (qc a) b (fun c w2 p b=>lA 2 29 ca b (fun k o l b=>ag (cR 6 [] mixed b ao ?_)))));exact eV 0 3 (pB c) (eO 1 4 [(1,0,3)] (iv a.num) b (eV 3 6 (qP c 3) (eO 4 7 [(1,3,2)] (nv (qd a)) b (aj 2 5 b (fun _ _ b=>G9 a.num cP _ _ b.g) (fun u i b=>eV 5 8 (.agg #[.bool (av (-a.num)),uV (lo (ac (-a.num))),.string (hi (ac (-a.num))),uV (lo (qd a)),.string (hi (qd a))]) (ce b (fun j _ b=>tP 6 0 0 ([.bool (av (-a.num)),uV (lo (ac (-a.num))),.string (hi (ac (-a.num))),uV (lo (qd a)),.string (hi (qd a))]) b (fun _ b=>tN (kX (b.ret [(0,0,5)] (.agg #[.bool (av (-a.num)),uV (lo (ac (-a.num))),.string (hi (ac (-a.num))),uV (lo (qd a)),.string (hi (qd a))]) (ib (Rat.neg_num a) (by unfold qd;rw[Rat.neg_den]))))))))))))
theorem tK (z:Int)(d:Nat)(hd:0<d)(j:(wds (ac z)).length<=1000000000)(i:(wds d).length<=1000000000)(w:World)(h:Hp)(g:G w h)(x:Tab h):CV 94 #[iv z,nv d] w h (qv (mkRat z d)):=by
 have a:=((sS g).add (K:=fun y=>Tab y) x);obtain ⟨b,c,e,k⟩:=gu z d hd;obtain ⟨q,hq⟩:∃ q,q=Kq (ac z) d:=⟨_,rfl⟩;rw[<-hq] at b c e k
 have p:(wds q).length<=1000000000:=ax (by rw[hq];exact KT _ hd) i;have u:LQ 1000000000 (mkRat z d):=⟨by rw[b];exact ax (cc z q e) j,by rw[c];exact ax (Bb _ _) i⟩;refine go Tryz.func94 [(0,iv z),(1,nv d)] rfl (aD (lA 2 27 (ic z) a (fun F w2 J a=>lA 3 25 (nc d) a (fun C D H a=>lA 4 29 ca a (fun I L B a=>ag ?_)))));have l:=a;refine cR 5 [⟨4,5,.cells (Ky [uV 0,eS]) 25 (0,0)⟩] mixed a (aZ (dB kR (fun _ _=>by kernel_rfl)) ao) (eO 0 6 [(2,0,3)] (iv z) a (eO 1 7 [(1,0,2)] (nv d) a (aj 2 8 a (fun _ _ a=>eF d _ _ a.g) (fun _ _ a=>aj 3 9 a (fun _ _ a=>jT z (d:Int) q (by first|assumption|exact hq) cP (show (wds d).length<=1000000000 by first|assumption|omega) _ _ a.g a.f.1) (fun _ _ a=>eU [] l a 25 [uV 0,eS] (fun _ _ o a=>tP 5 0 0 (nc q) a (fun _ a=>tN (cQ (cR 7 [] mixed a ao ?_)))))))));exact eO 0 10 [(3,0,3)] (iv z) a (eO 1 11 [(0,0,2)] (nv q) a (eO 3 13 [(2,0,2)] (nv d) a (eO 4 14 [(0,0,2)] (nv q) a (aj 2 12 a (fun _ _ a=>m7 z q aM aM cP cP _ _ a.g) (fun _ _ a=>aj 5 15 a (fun _ _ a=>iq d q aM cP cP _ _ a.g) (fun _ _ a=>aj 6 16 a (fun _ _ a=>kd (mkRat z d) (z/(q:Int)) (d/q) (by first|assumption|exact b|exact (b).symm) (by first|assumption|exact c.symm) aM _ _ a.g) (fun _ _ a=>ce a (fun _ _ a=>tP 7 1 0 (qc (mkRat z d)) a (fun _ a=>tN (kX (a.ret [(1,0,5)] (qv (mkRat z d)) rfl)))))))))))
theorem cJ (a:Rat)(b:LQ 100000000 a)(h1:a.den=1)(w:World)(h:Hp)(g:G w h):CV 43 #[qv a] w h (.bool true):=by
 have:=jM a b w h g;rwa [decide_eq_true h1] at this
theorem fJ (a:Rat)(b:LQ 100000000 a)(h1:a.den≠1)(w:World)(h:Hp)(g:G w h):CV 43 #[qv a] w h (.bool false):=by
 have:=jM a b w h g;rwa [decide_eq_false h1] at this
theorem Dy (x y z:Int)(e:z=x+y)(a:(wds (ac x)).length+(wds (ac y)).length<=999999999)(w:World)(h:Hp)(g:G w h):CV 75 #[iv x,iv y] w h (iv z):=by
 subst e;exact Hi x y a w h g
theorem iZ (x y:Int):(wds (ac (x*y))).length<=(wds (ac x)).length+(wds (ac y)).length:=by
 have:ac (x*y)=ac x*ac y:=KB x y;rw[this];exact dD
theorem dK (x:Int)(d:Nat):(wds (ac (x*((d:Nat):Int)))).length<=(wds (ac x)).length+(wds d).length:=iZ x (d:Int)
theorem rk (x y:Int):(wds (ac (x+y))).length<=(wds (ac x)).length+(wds (ac y)).length+1 :=
 e6 (dh (show ac (x+y)<=ac x+ac y from KU x y)) kz
theorem eZ {a b:Rat}(d:a.den=1)(c:b.den=1):(a+b).num=a.num+b.num/\(a+b).den=1:=by
 obtain ⟨e1,e2,e,f,h,i⟩:=lk a b 1 1 (a.num+b.num) (by rw[d,c];rfl) (by rw[d,c];simp) (by simp);rw[d,c] at e2
 exact ⟨by simpa using e1,by simpa using e2⟩
theorem fc {a b:Rat}(d:a.den=1)(c:b.den=1):(a*b).num=a.num*b.num/\(a*b).den=1:=by
 obtain ⟨e1,e2,e,f,h,i⟩:=lu a b 1 1 (by rw[c];simp) (by rw[d];simp);rw[d,c] at e2
 exact ⟨by simpa using e1,by simpa using e2⟩
theorem Fl (a b:Rat)(z:LQ 100000000 a)(y:LQ 100000000 b)(f:a.den=1)(i:b.den=1)(w:World)(h:Hp)(g:G w h)(B:Tab h):CV 32 #[qv a,qv b] w h (qv (a+b)):=by
 have e:=((sS g).add (K:=fun C=>Tab C) B);have k:=z;have j:=y;obtain ⟨l,F⟩:=k;obtain ⟨u,D⟩:=j;exact go Tryz.func32 [(0,qv a),(1,qv b)] rfl (aD (lA 2 29 (qc a) e (fun x w2 O e=>lA 3 29 (qc b) e (fun p I L e=>lA 4 29 ca e (fun M J H e=>ag (ab e [.o (qv a) 2 0 5] (ak 11 e (cJ a aM aM _ _ e.g) (fun _ _ e=>lL e [.c,.o (qv b) 1 0 5] (ak 14 e (cJ b aM aM _ _ e.g) (fun _ _ e=>lL e [.v qT] (au (ab e [.v (pB x),.o (iv a.num) 2 0 3,.v (pB p),.o (iv b.num) 1 0 3] (ak 20 e (Hi a.num b.num cP _ _ e.g) (fun _ _ e=>lL e [.v (.agg #[.bool (av (a.num+b.num)),uV (lo (ac (a.num+b.num))),.string (hi (ac (a.num+b.num))),uV 0,eS])] (lP 0 0 ([.bool (av (a.num+b.num)),uV (lo (ac (a.num+b.num))),.string (hi (ac (a.num+b.num))),uV 0,eS]) e (fun _ e=>af e [(0,0,5)] (.agg #[.bool (av (a.num+b.num)),uV (lo (ac (a.num+b.num))),.string (hi (ac (a.num+b.num))),uV 0,eS]) (ib (d:=0) (eZ f i).1 (kr (eZ f i).2))))))))))))))))))
theorem FK (a b:Rat)(D:LQ 100000000 a)(x:LQ 100000000 b)(H:a.den≠1)(w:World)(h:Hp)(g:G w h)(tb:Tab h):CV 32 #[qv a,qv b] w h (qv (a+b)):=by
 have c:=((sS g).add (K:=fun h_=>Tab h_) tb);have B:=D;have z:=x;obtain ⟨I,j⟩:=D;obtain ⟨L,p⟩:=x;obtain ⟨q,hq⟩:∃ q,q=Kq a.den b.den:=⟨_,rfl⟩;obtain ⟨up,hup⟩:∃ up,up=a.num*((b.den/q:Nat):Int)+b.num*((a.den/q:Nat):Int):=⟨_,rfl⟩;obtain ⟨r,hr⟩:∃ r,r=Kq (ac up) q:=⟨_,rfl⟩;obtain ⟨e,k,u,O,hr0,y⟩:=lk a b q r up hq hup hr;have C:(wds q).length<=100000000:=ax (by rw[hq];exact Kx _ a.den_pos) j;have hrl:(wds r).length<=100000000:=ax (by rw[hr];exact KT _ y) C;have Z:(wds (a.den/q)).length<=100000000:=ax (Bb _ _) j;have hbq:(wds (b.den/q)).length<=100000000:=ax (Bb _ _) p;have V:(wds (b.den/r)).length<=100000000:=ax (Bb _ _) p;have hx1:=dK a.num (b.den/q);have S:=dK b.num (a.den/q);have X:(wds (ac up)).length<=999999999:=e6 (by rw[hup];exact rk _ _) oM;have U:=@dD (a.den/q) (b.den/r);have W:LQ 1000000000 (a+b):=⟨by rw[e];exact ax (cc up r u) oM,by rw[k];omega⟩;have D:=B;have x:=z;refine go Tryz.func32 [(0,qv a),(1,qv b)] rfl (aD (lA 2 29 (qc a) c (fun M w2 h3 c=>lA 3 29 (qc b) c (fun F w5 h6 c=>lA 4 29 ca c (fun b7 w8 h9 c=>ag (ab c [.o (qv a) 2 0 5] (ak 11 c (fJ a aM aM _ _ c.g) (fun _ _ c=>lL c ae (lG 13 ?_)))))))));refine lG 14 (lL c [.v qF] (ai (cK (cQ ?_))));have d:=c;refine cR 8 [⟨7,5,.cells (Ky [uV 0,eS]) 25 (0,0)⟩] mixed c (aZ (dB kR (fun _ _=>by kernel_rfl)) ao) (eO 0 22 [(2,0,5)] (qv a) c (eO 3 25 [(1,0,5)] (qv b) c (aj 1 23 c (fun _ _ c=>fB a aM _ _ c.g) (fun _ _ c=>aj 2 24 c (fun _ _ c=>eF a.den _ _ c.g) (fun _ _ c=>aj 4 26 c (fun _ _ c=>fB b aM _ _ c.g) (fun _ _ c=>aj 5 27 c (fun _ _ c=>eF b.den _ _ c.g) (fun _ _ c=>aj 6 28 c (fun _ _ c=>jT (a.den:Int) (b.den:Int) q (by first|assumption|exact hq) (show (wds a.den).length<=1000000000 by first|assumption|omega) (show (wds b.den).length<=1000000000 by first|assumption|omega) _ _ c.g c.f.1) (fun _ _ c=>eU [] d c 25 [uV 0,eS] (fun _ _ J c=>tP 8 0 0 (nc q) c (fun _ c=>tN (cQ ?_)))))))))));have d:=c;refine kT 10 [⟨8,6,.cells (Ky [uV 0,eS]) 25 (0,0)⟩,⟨9,7,.cells (Ky [uV 0,eS]) 25 (0,0)⟩] [] mixed c (aZ (dB kR (fun _ _=>by kernel_rfl)) (aZ (dB kR (fun _ _=>by kernel_rfl)) ao)) (eO 0 29 [(3,0,5)] (qv a) c (eO 2 31 [(0,0,2)] (nv q) c (jW 4 33 [(2,0,5)] (qv b) d c (jW 6 35 [(0,0,2)] (nv q) d c (aj 1 30 c (fun _ _ c=>fB a aM _ _ c.g) (fun _ _ c=>aj 3 32 c (fun _ _ c=>iq a.den q aM cP cP _ _ c.g) (fun _ _ c=>aj 5 34 c (fun _ _ c=>fB b aM _ _ c.g) (fun _ _ c=>aj 7 36 c (fun _ _ c=>iq b.den q aM cP cP _ _ c.g) (fun _ _ c=>xd d c 25 [uV 0,eS] 25 [uV 0,eS] (fun _ _ za Q i l c=>tP 10 0 0 (nc (a.den/q)) c (fun _ c=>?_) (hz:=fb i)))))))))));refine tP 11 1 0 (nc (b.den/q)) c (fun _ c=>?_) (hz:=fb l);refine tN (cQ ?_);have d:=c;refine cR 10 [⟨9,8,.cells (Ky [qF,uV 0,eS]) 27 (0,0)⟩] mixed c (aZ (dB kR (fun _ _=>by kernel_rfl)) ao) (eV 0 37 (pB M) (eO 1 38 [(5,0,3)] (iv a.num) c (eO 2 39 [(1,0,2)] (nv (b.den/q)) c (eV 4 41 (pB F) (eO 5 42 [(4,0,3)] (iv b.num) c (eO 6 43 [(0,0,2)] (nv (a.den/q)) c (aj 3 40 c (fun _ _ c=>iF a.num (b.den/q) cP _ _ c.g) (fun _ _ c=>aj 7 44 c (fun _ _ c=>iF b.num (a.den/q) cP _ _ c.g) (fun _ _ c=>aj 8 45 c (fun _ _ c=>Dy (a.num*(((b.den/q):Nat):Int)) (b.num*(((a.den/q):Nat):Int)) up hup oM _ _ c.g) (fun _ _ c=>eU [] d c 27 [qF,uV 0,eS] (fun _ _ zb c=>tP 10 0 0 (ic up) c (fun _ c=>tN (cQ ?_)))))))))))));have d:=c;refine cR 5 [⟨4,9,.cells (Ky [uV 0,eS]) 25 (0,0)⟩] mixed c (aZ (dB kR (fun _ _=>by kernel_rfl)) ao) (eO 0 46 [(0,0,3)] (iv up) c (eO 1 47 [(3,0,2)] (nv q) c (aj 2 48 c (fun _ _ c=>eF q _ _ c.g) (fun _ _ c=>aj 3 49 c (fun _ _ c=>jT up (q:Int) r (by first|assumption|exact hr) cP (show (wds q).length<=1000000000 by first|assumption|omega) _ _ c.g c.f.1) (fun _ _ c=>eU [] d c 25 [uV 0,eS] (fun _ _ Y c=>tP 5 0 0 (nc r) c (fun _ c=>tN (bU [(3,pB F),(4,pB b7),(6,pB za),(8,pB zb),(9,pB Y)] ?_))))))));refine cQ (cR 10 [] mixed c ao ?_);exact eO 0 50 [(1,0,3)] (iv up) c (eO 1 51 [(0,0,2)] (nv r) c (eO 3 53 [(2,0,2)] (nv (a.den/q)) c (eO 4 54 [(6,0,5)] (qv b) c (eO 6 56 [(0,0,2)] (nv r) c (aj 2 52 c (fun _ _ c=>m7 up r aM aM cP cP _ _ c.g) (fun _ _ c=>aj 5 55 c (fun _ _ c=>fB b aM _ _ c.g) (fun _ _ c=>aj 7 57 c (fun _ _ c=>iq b.den r aM cP cP _ _ c.g) (fun _ _ c=>aj 8 58 c (fun _ _ c=>rv (a.den/q) (b.den/r) cP cP _ _ c.g) (fun _ _ c=>aj 9 59 c (fun _ _ c=>kd (a+b) (up/(r:Int)) ((a.den/q)*(b.den/r)) (by first|assumption|exact e|exact (e).symm) (by first|assumption|exact k.symm) aM _ _ c.g) (fun _ _ c=>ce c (fun _ _ c=>tP 10 5 0 (qc (a+b)) c (fun _ c=>tN (kX (c.ret [(5,0,5)] (qv (a+b)) rfl))))))))))))))
theorem E9 (a b:Rat)(F:LQ 100000000 a)(y:LQ 100000000 b)(I:a.den=1)(hwb:b.den≠1)(w:World)(h:Hp)(g:G w h)(tb:Tab h):CV 32 #[qv a,qv b] w h (qv (a+b)):=by
 have d:=((sS g).add (K:=fun h_=>Tab h_) tb);have C:=F;have B:=y;obtain ⟨J,l⟩:=F;obtain ⟨L,u⟩:=y;obtain ⟨q,hq⟩:∃ q,q=Kq a.den b.den:=⟨_,rfl⟩;obtain ⟨up,hup⟩:∃ up,up=a.num*((b.den/q:Nat):Int)+b.num*((a.den/q:Nat):Int):=⟨_,rfl⟩;obtain ⟨r,hr⟩:∃ r,r=Kq (ac up) q:=⟨_,rfl⟩;obtain ⟨i,p,x,O,hr0,z⟩:=lk a b q r up hq hup hr;have D:(wds q).length<=100000000:=ax (by rw[hq];exact Kx _ a.den_pos) l;have hrl:(wds r).length<=100000000:=ax (by rw[hr];exact KT _ z) D;have haq:(wds (a.den/q)).length<=100000000:=ax (Bb _ _) l;have hbq:(wds (b.den/q)).length<=100000000:=ax (Bb _ _) u;have U:(wds (b.den/r)).length<=100000000:=ax (Bb _ _) u;have hx1:=dK a.num (b.den/q);have Q:=dK b.num (a.den/q);have Y:(wds (ac up)).length<=999999999:=e6 (by rw[hup];exact rk _ _) oM;have S:=@dD (a.den/q) (b.den/r);have X:LQ 1000000000 (a+b):=⟨by rw[i];exact ax (cc up r x) oM,by rw[p];omega⟩;have F:=C;have y:=B;refine go Tryz.func32 [(0,qv a),(1,qv b)] rfl (aD (lA 2 29 (qc a) d (fun M w2 h3 d=>lA 3 29 (qc b) d (fun H w5 h6 d=>lA 4 29 ca d (fun b7 w8 h9 d=>ag (ab d [.o (qv a) 2 0 5] (ak 11 d (cJ a aM aM _ _ d.g) (fun _ _ d=>lL d [.c,.o (qv b) 1 0 5] (ak 14 d (fJ b aM aM _ _ d.g) (fun _ _ d=>lL d [.v qF] (ai (cK (cQ ?_)))))))))))));have e:=d;refine cR 8 [⟨7,5,.cells (Ky [uV 0,eS]) 25 (0,0)⟩] mixed d (aZ (dB kR (fun _ _=>by kernel_rfl)) ao) (eO 0 22 [(2,0,5)] (qv a) d (eO 3 25 [(1,0,5)] (qv b) d (aj 1 23 d (fun _ _ d=>fB a aM _ _ d.g) (fun _ _ d=>aj 2 24 d (fun _ _ d=>eF a.den _ _ d.g) (fun _ _ d=>aj 4 26 d (fun _ _ d=>fB b aM _ _ d.g) (fun _ _ d=>aj 5 27 d (fun _ _ d=>eF b.den _ _ d.g) (fun _ _ d=>aj 6 28 d (fun _ _ d=>jT (a.den:Int) (b.den:Int) q (by first|assumption|exact hq) (show (wds a.den).length<=1000000000 by first|assumption|omega) (show (wds b.den).length<=1000000000 by first|assumption|omega) _ _ d.g d.f.1) (fun _ _ d=>eU [] e d 25 [uV 0,eS] (fun _ _ V d=>tP 8 0 0 (nc q) d (fun _ d=>tN (cQ ?_)))))))))));have e:=d;refine kT 10 [⟨8,6,.cells (Ky [uV 0,eS]) 25 (0,0)⟩,⟨9,7,.cells (Ky [uV 0,eS]) 25 (0,0)⟩] [] mixed d (aZ (dB kR (fun _ _=>by kernel_rfl)) (aZ (dB kR (fun _ _=>by kernel_rfl)) ao)) (eO 0 29 [(3,0,5)] (qv a) d (eO 2 31 [(0,0,2)] (nv q) d (jW 4 33 [(2,0,5)] (qv b) e d (jW 6 35 [(0,0,2)] (nv q) e d (aj 1 30 d (fun _ _ d=>fB a aM _ _ d.g) (fun _ _ d=>aj 3 32 d (fun _ _ d=>iq a.den q aM cP cP _ _ d.g) (fun _ _ d=>aj 5 34 d (fun _ _ d=>fB b aM _ _ d.g) (fun _ _ d=>aj 7 36 d (fun _ _ d=>iq b.den q aM cP cP _ _ d.g) (fun _ _ d=>xd e d 25 [uV 0,eS] 25 [uV 0,eS] (fun _ _ za W j k d=>tP 10 0 0 (nc (a.den/q)) d (fun _ d=>?_) (hz:=fb j)))))))))));refine tP 11 1 0 (nc (b.den/q)) d (fun _ d=>?_) (hz:=fb k);refine tN (cQ ?_);have e:=d;refine cR 10 [⟨9,8,.cells (Ky [qF,uV 0,eS]) 27 (0,0)⟩] mixed d (aZ (dB kR (fun _ _=>by kernel_rfl)) ao) (eV 0 37 (pB M) (eO 1 38 [(5,0,3)] (iv a.num) d (eO 2 39 [(1,0,2)] (nv (b.den/q)) d (eV 4 41 (pB H) (eO 5 42 [(4,0,3)] (iv b.num) d (eO 6 43 [(0,0,2)] (nv (a.den/q)) d (aj 3 40 d (fun _ _ d=>iF a.num (b.den/q) cP _ _ d.g) (fun _ _ d=>aj 7 44 d (fun _ _ d=>iF b.num (a.den/q) cP _ _ d.g) (fun _ _ d=>aj 8 45 d (fun _ _ d=>Dy (a.num*(((b.den/q):Nat):Int)) (b.num*(((a.den/q):Nat):Int)) up hup oM _ _ d.g) (fun _ _ d=>eU [] e d 27 [qF,uV 0,eS] (fun _ _ zb d=>tP 10 0 0 (ic up) d (fun _ d=>tN (cQ ?_)))))))))))));have e:=d;refine cR 5 [⟨4,9,.cells (Ky [uV 0,eS]) 25 (0,0)⟩] mixed d (aZ (dB kR (fun _ _=>by kernel_rfl)) ao) (eO 0 46 [(0,0,3)] (iv up) d (eO 1 47 [(3,0,2)] (nv q) d (aj 2 48 d (fun _ _ d=>eF q _ _ d.g) (fun _ _ d=>aj 3 49 d (fun _ _ d=>jT up (q:Int) r (by first|assumption|exact hr) cP (show (wds q).length<=1000000000 by first|assumption|omega) _ _ d.g d.f.1) (fun _ _ d=>eU [] e d 25 [uV 0,eS] (fun _ _ Z d=>tP 5 0 0 (nc r) d (fun _ d=>tN (bU [(3,pB H),(4,pB b7),(6,pB za),(8,pB zb),(9,pB Z)] ?_))))))));refine cQ (cR 10 [] mixed d ao ?_);exact eO 0 50 [(1,0,3)] (iv up) d (eO 1 51 [(0,0,2)] (nv r) d (eO 3 53 [(2,0,2)] (nv (a.den/q)) d (eO 4 54 [(6,0,5)] (qv b) d (eO 6 56 [(0,0,2)] (nv r) d (aj 2 52 d (fun _ _ d=>m7 up r aM aM cP cP _ _ d.g) (fun _ _ d=>aj 5 55 d (fun _ _ d=>fB b aM _ _ d.g) (fun _ _ d=>aj 7 57 d (fun _ _ d=>iq b.den r aM cP cP _ _ d.g) (fun _ _ d=>aj 8 58 d (fun _ _ d=>rv (a.den/q) (b.den/r) cP cP _ _ d.g) (fun _ _ d=>aj 9 59 d (fun _ _ d=>kd (a+b) (up/(r:Int)) ((a.den/q)*(b.den/r)) (by first|assumption|exact i|exact (i).symm) (by first|assumption|exact p.symm) aM _ _ d.g) (fun _ _ d=>ce d (fun _ _ d=>tP 10 5 0 (qc (a+b)) d (fun _ d=>tN (kX (d.ret [(5,0,5)] (qv (a+b)) rfl))))))))))))))
theorem mB (a b:Rat)(e:LQ 100000000 a)(d:LQ 100000000 b)(w:World)(h:Hp)(g:G w h)(c:Tab h):CV 32 #[qv a,qv b] w h (qv (a+b)):=by
 by_cases h1:a.den=1
 ·by_cases h2:b.den=1
  ·exact Fl a b e d h1 h2 w h g c
  ·exact E9 a b e d h1 h2 w h g c
 ·exact FK a b e d h1 w h g c
theorem FT (a b:Rat)(z:LQ 100000000 a)(y:LQ 100000000 b)(f:a.den=1)(i:b.den=1)(w:World)(h:Hp)(g:G w h)(B:Tab h):CV 35 #[qv a,qv b] w h (qv (a*b)):=by
 have e:=((sS g).add (K:=fun C=>Tab C) B);have k:=z;have j:=y;obtain ⟨l,F⟩:=k;obtain ⟨u,D⟩:=j;exact go Tryz.func35 [(0,qv a),(1,qv b)] rfl (aD (lA 2 29 (qc a) e (fun x w2 O e=>lA 3 29 (qc b) e (fun p I L e=>lA 4 29 ca e (fun M J H e=>ag (ab e [.o (qv a) 2 0 5] (ak 8 e (cJ a aM aM _ _ e.g) (fun _ _ e=>lL e [.c,.o (qv b) 1 0 5] (ak 11 e (cJ b aM aM _ _ e.g) (fun _ _ e=>lL e [.v qT] (au (ab e [.v (pB x),.o (iv a.num) 2 0 3,.v (pB p),.o (iv b.num) 1 0 3] (ak 17 e (Ch a.num b.num cP _ _ e.g) (fun _ _ e=>lL e [.v (.agg #[.bool (av (a.num*b.num)),uV (lo (ac (a.num*b.num))),.string (hi (ac (a.num*b.num))),uV 0,eS])] (lP 0 0 ([.bool (av (a.num*b.num)),uV (lo (ac (a.num*b.num))),.string (hi (ac (a.num*b.num))),uV 0,eS]) e (fun _ e=>af e [(0,0,5)] (.agg #[.bool (av (a.num*b.num)),uV (lo (ac (a.num*b.num))),.string (hi (ac (a.num*b.num))),uV 0,eS]) (ib (d:=0) (fc f i).1 (kr (fc f i).2))))))))))))))))))
theorem D9 (a b:Rat)(C:LQ 100000000 a)(y:LQ 100000000 b)(H:a.den≠1)(w:World)(h:Hp)(g:G w h)(tb:Tab h):CV 35 #[qv a,qv b] w h (qv (a*b)):=by
 have c:=((sS g).add (K:=fun h_=>Tab h_) tb);have B:=C;have z:=y;obtain ⟨l,i⟩:=C;obtain ⟨p,k⟩:=y;obtain ⟨q,hq⟩:∃ q,q=Kq (ac a.num) b.den:=⟨_,rfl⟩;obtain ⟨r,hr⟩:∃ r,r=Kq (ac b.num) a.den:=⟨_,rfl⟩;obtain ⟨d,j,u,x,L,hr0⟩:=lu a b q r hq hr;have S:(wds q).length<=100000000:=ax (by rw[hq];exact KT _ b.den_pos) k;have Z:(wds r).length<=100000000:=ax (by rw[hr];exact KT _ a.den_pos) i;have V:(wds (ac (a.num/(q:Int)))).length<=100000000:=ax (cc _ _ u) l;have Q:(wds (ac (b.num/(r:Int)))).length<=100000000:=ax (cc _ _ x) p;have M:(wds (a.den/r)).length<=100000000:=ax (Bb _ _) i;have X:(wds (b.den/q)).length<=100000000:=ax (Bb _ _) k;have O:=@dD (a.den/r) (b.den/q);have Y:=iZ (a.num/(q:Int)) (b.num/(r:Int));have U:LQ 1000000000 (a*b):=⟨by rw[d];omega,by rw[j];omega⟩;have C:=B;have y:=z;refine go Tryz.func35 [(0,qv a),(1,qv b)] rfl (aD (lA 2 29 (qc a) c (fun F w2 h3 c=>lA 3 29 (qc b) c (fun D w5 h6 c=>lA 4 29 ca c (fun W w8 h9 c=>ag (ab c [.o (qv a) 2 0 5] (ak 8 c (fJ a aM aM _ _ c.g) (fun _ _ c=>lL c ae (lG 10 ?_)))))))));refine lG 11 (lL c [.v qF] (ai (cK (cQ ?_))));have e:=c;refine cR 7 [⟨6,5,.cells (Ky [uV 0,eS]) 25 (0,0)⟩] mixed c (aZ (dB kR (fun _ _=>by kernel_rfl)) ao) (eV 0 19 (pB F) (eO 1 20 [(2,0,3)] (iv a.num) c (eO 2 21 [(1,0,5)] (qv b) c (aj 3 22 c (fun _ _ c=>fB b aM _ _ c.g) (fun _ _ c=>aj 4 23 c (fun _ _ c=>eF b.den _ _ c.g) (fun _ _ c=>aj 5 24 c (fun _ _ c=>jT a.num (b.den:Int) q (by first|assumption|exact hq) cP (show (wds b.den).length<=1000000000 by first|assumption|omega) _ _ c.g c.f.1) (fun _ _ c=>eU [] e c 25 [uV 0,eS] (fun _ _ I c=>tP 7 0 0 (nc q) c (fun _ c=>tN (cQ ?_))))))))));have e:=c;refine cR 7 [⟨6,6,.cells (Ky [uV 0,eS]) 25 (0,0)⟩] mixed c (aZ (dB kR (fun _ _=>by kernel_rfl)) ao) (eV 0 25 (pB D) (eO 1 26 [(2,0,3)] (iv b.num) c (eO 2 27 [(3,0,5)] (qv a) c (aj 3 28 c (fun _ _ c=>fB a aM _ _ c.g) (fun _ _ c=>aj 4 29 c (fun _ _ c=>eF a.den _ _ c.g) (fun _ _ c=>aj 5 30 c (fun _ _ c=>jT b.num (a.den:Int) r (by first|assumption|exact hr) cP (show (wds a.den).length<=1000000000 by first|assumption|omega) _ _ c.g c.f.1) (fun _ _ c=>eU [] e c 25 [uV 0,eS] (fun _ _ J c=>tP 7 0 0 (nc r) c (fun _ c=>tN (cQ (cR 19 [] mixed c ao ?_)))))))))));refine eV 0 31 (pB F) (eO 1 32 [(4,0,3)] (iv a.num) c (eO 2 33 [(1,0,2)] (nv q) c (eV 4 35 (pB D) (eO 5 36 [(3,0,3)] (iv b.num) c (eO 6 37 [(0,0,2)] (nv r) c (eO 9 40 [(4,0,5)] (qv a) c (eO 11 42 [(0,0,2)] (nv r) c (eO 13 44 [(3,0,5)] (qv b) c (eO 15 46 [(1,0,2)] (nv q) c (aj 3 34 c (fun _ _ c=>m7 a.num q aM aM cP cP _ _ c.g) (fun _ _ c=>aj 7 38 c (fun _ _ c=>m7 b.num r aM aM cP cP _ _ c.g) (fun _ _ c=>aj 8 39 c (fun _ _ c=>Ch (a.num/(q:Int)) (b.num/(r:Int)) cP _ _ c.g) (fun _ _ c=>aj 10 41 c (fun _ _ c=>fB a aM _ _ c.g) (fun _ _ c=>aj 12 43 c (fun _ _ c=>iq a.den r aM cP cP _ _ c.g) (fun _ _ c=>aj 14 45 c (fun _ _ c=>fB b aM _ _ c.g) (fun _ _ c=>aj 16 47 c (fun _ _ c=>iq b.den q aM cP cP _ _ c.g) (fun _ _ c=>aj 17 48 c (fun _ _ c=>rv (a.den/r) (b.den/q) cP cP _ _ c.g) (fun _ _ c=>aj 18 49 c (fun _ _ c=>kd (a*b) ((a.num/(q:Int))*(b.num/(r:Int))) ((a.den/r)*(b.den/q)) (by first|assumption|exact d|exact (d).symm) (by first|assumption|exact j.symm) aM _ _ c.g) (fun _ _ c=>ce c (fun _ _ c=>tP 19 2 0 (qc (a*b)) c (fun _ c=>tN (bU [(4,pB W)] ?_))))))))))))))))))))));exact kX (c.ret [(2,0,5)] (qv (a*b)) rfl)
theorem EP (a b:Rat)(D:LQ 100000000 a)(z:LQ 100000000 b)(I:a.den=1)(Y:b.den≠1)(w:World)(h:Hp)(g:G w h)(tb:Tab h):CV 35 #[qv a,qv b] w h (qv (a*b)):=by
 have d:=((sS g).add (K:=fun h_=>Tab h_) tb);have C:=D;have B:=z;obtain ⟨p,j⟩:=D;obtain ⟨u,l⟩:=z;obtain ⟨q,hq⟩:∃ q,q=Kq (ac a.num) b.den:=⟨_,rfl⟩;obtain ⟨r,hr⟩:∃ r,r=Kq (ac b.num) a.den:=⟨_,rfl⟩;obtain ⟨e,k,x,y,L,hr0⟩:=lu a b q r hq hr;have S:(wds q).length<=100000000:=ax (by rw[hq];exact KT _ b.den_pos) l;have hrl:(wds r).length<=100000000:=ax (by rw[hr];exact KT _ a.den_pos) j;have V:(wds (ac (a.num/(q:Int)))).length<=100000000:=ax (cc _ _ x) p;have Q:(wds (ac (b.num/(r:Int)))).length<=100000000:=ax (cc _ _ y) u;have M:(wds (a.den/r)).length<=100000000:=ax (Bb _ _) j;have X:(wds (b.den/q)).length<=100000000:=ax (Bb _ _) l;have O:=@dD (a.den/r) (b.den/q);have Z:=iZ (a.num/(q:Int)) (b.num/(r:Int));have U:LQ 1000000000 (a*b):=⟨by rw[e];omega,by rw[k];omega⟩;have D:=C;have z:=B;refine go Tryz.func35 [(0,qv a),(1,qv b)] rfl (aD (lA 2 29 (qc a) d (fun H w2 h3 d=>lA 3 29 (qc b) d (fun F w5 h6 d=>lA 4 29 ca d (fun W w8 h9 d=>ag (ab d [.o (qv a) 2 0 5] (ak 8 d (cJ a aM aM _ _ d.g) (fun _ _ d=>lL d [.c,.o (qv b) 1 0 5] (ak 11 d (fJ b aM aM _ _ d.g) (fun _ _ d=>lL d [.v qF] (ai (cK (cQ ?_)))))))))))));have i:=d;refine cR 7 [⟨6,5,.cells (Ky [uV 0,eS]) 25 (0,0)⟩] mixed d (aZ (dB kR (fun _ _=>by kernel_rfl)) ao) (eV 0 19 (pB H) (eO 1 20 [(2,0,3)] (iv a.num) d (eO 2 21 [(1,0,5)] (qv b) d (aj 3 22 d (fun _ _ d=>fB b aM _ _ d.g) (fun _ _ d=>aj 4 23 d (fun _ _ d=>eF b.den _ _ d.g) (fun _ _ d=>aj 5 24 d (fun _ _ d=>jT a.num (b.den:Int) q (by first|assumption|exact hq) cP (show (wds b.den).length<=1000000000 by first|assumption|omega) _ _ d.g d.f.1) (fun _ _ d=>eU [] i d 25 [uV 0,eS] (fun _ _ J d=>tP 7 0 0 (nc q) d (fun _ d=>tN (cQ ?_))))))))));have i:=d;refine cR 7 [⟨6,6,.cells (Ky [uV 0,eS]) 25 (0,0)⟩] mixed d (aZ (dB kR (fun _ _=>by kernel_rfl)) ao) (eV 0 25 (pB F) (eO 1 26 [(2,0,3)] (iv b.num) d (eO 2 27 [(3,0,5)] (qv a) d (aj 3 28 d (fun _ _ d=>fB a aM _ _ d.g) (fun _ _ d=>aj 4 29 d (fun _ _ d=>eF a.den _ _ d.g) (fun _ _ d=>aj 5 30 d (fun _ _ d=>jT b.num (a.den:Int) r (by first|assumption|exact hr) cP (show (wds a.den).length<=1000000000 by first|assumption|omega) _ _ d.g d.f.1) (fun _ _ d=>eU [] i d 25 [uV 0,eS] (fun _ _ b32 d=>tP 7 0 0 (nc r) d (fun _ d=>tN (cQ (cR 19 [] mixed d ao ?_)))))))))));refine eV 0 31 (pB H) (eO 1 32 [(4,0,3)] (iv a.num) d (eO 2 33 [(1,0,2)] (nv q) d (eV 4 35 (pB F) (eO 5 36 [(3,0,3)] (iv b.num) d (eO 6 37 [(0,0,2)] (nv r) d (eO 9 40 [(4,0,5)] (qv a) d (eO 11 42 [(0,0,2)] (nv r) d (eO 13 44 [(3,0,5)] (qv b) d (eO 15 46 [(1,0,2)] (nv q) d (aj 3 34 d (fun _ _ d=>m7 a.num q aM aM cP cP _ _ d.g) (fun _ _ d=>aj 7 38 d (fun _ _ d=>m7 b.num r aM aM cP cP _ _ d.g) (fun _ _ d=>aj 8 39 d (fun _ _ d=>Ch (a.num/(q:Int)) (b.num/(r:Int)) cP _ _ d.g) (fun _ _ d=>aj 10 41 d (fun _ _ d=>fB a aM _ _ d.g) (fun _ _ d=>aj 12 43 d (fun _ _ d=>iq a.den r aM cP cP _ _ d.g) (fun _ _ d=>aj 14 45 d (fun _ _ d=>fB b aM _ _ d.g) (fun _ _ d=>aj 16 47 d (fun _ _ d=>iq b.den q aM cP cP _ _ d.g) (fun _ _ d=>aj 17 48 d (fun _ _ d=>rv (a.den/r) (b.den/q) cP cP _ _ d.g) (fun _ _ d=>aj 18 49 d (fun _ _ d=>kd (a*b) ((a.num/(q:Int))*(b.num/(r:Int))) ((a.den/r)*(b.den/q)) (by first|assumption|exact e|exact (e).symm) (by first|assumption|exact k.symm) aM _ _ d.g) (fun _ _ d=>ce d (fun _ _ d=>tP 19 2 0 (qc (a*b)) d (fun _ d=>tN (bU [(4,pB W)] ?_))))))))))))))))))))));exact kX (d.ret [(2,0,5)] (qv (a*b)) rfl)
theorem iL (a b:Rat)(e:LQ 100000000 a)(d:LQ 100000000 b)(w:World)(h:Hp)(g:G w h)(c:Tab h):CV 35 #[qv a,qv b] w h (qv (a*b)):=by
 by_cases h1:a.den=1
 ·by_cases h2:b.den=1
  ·exact FT a b e d h1 h2 w h g c
  ·exact EP a b e d h1 h2 w h g c
 ·exact D9 a b e d h1 w h g c
theorem LQ.neg {k:Nat}{a:Rat}(h:LQ k a):LQ k (-a):=⟨by rw[Rat.neg_num];unfold ac;rw[KV];exact h.1,by rw[Rat.neg_den];exact h.2⟩
theorem ID (a b:Rat)(x:LQ 100000000 a)(e:LQ 100000000 b)(w:World)(h:Hp)(g:G w h)(i:Tab h):CV 117 #[qv a,qv b] w h (qv (a-b)):=by
 have c:=((sS g).add (K:=fun j=>Tab j) i);have d:=e.neg;refine go Tryz.func117 [(0,qv a),(1,qv b)] rfl (aD (lA 2 29 (qc a) c (fun p w2 z c=>lA 3 29 (qc b) c (fun l o u c=>lA 4 29 ca c (fun y B k c=>ag (cR 4 [] mixed c ao ?_))))));exact eO 0 5 [(2,0,5)] (qv a) c (eO 1 6 [(1,0,5)] (qv b) c (aj 2 7 c (fun _ _ c=>uZ b aM _ _ c.g) (fun _ _ c=>aj 3 8 c (fun _ _ c=>mB a (-b) aM aM _ _ c.g c.f.1) (fun _ _ c=>ce c (fun _ _ c=>tP 4 0 0 (qc (a+(-b))) c (fun _ c=>tN (kX (c.ret [(0,0,5)] (qv (a+(-b))) (by rw[Rat.sub_eq_add_neg])))))))))
theorem LQ.add {k l:Nat}{a b:Rat}(B:LQ k a)(p:LQ l b):LQ (k+l+1) (a+b):=by
 obtain ⟨i,h⟩:=B;obtain ⟨j,c⟩:=p;obtain ⟨q,hq⟩:∃ q,q=Kq a.den b.den:=⟨_,rfl⟩;obtain ⟨up,hup⟩:∃ up,up=a.num*((b.den/q:Nat):Int)+b.num*((a.den/q:Nat):Int):=⟨_,rfl⟩;obtain ⟨r,hr⟩:∃ r,r=Kq (ac up) q:=⟨_,rfl⟩;obtain ⟨d,f,e,o,hr0,u⟩:=lk a b q r up hq hup hr;have C:=ax (Bb a.den q) h;have D:=ax (Bb b.den q) c;have z:=ax (Bb b.den r) c;have F:=dK a.num (b.den/q);have x:=dK b.num (a.den/q);have y:=@dD (a.den/q) (b.den/r);refine ⟨?_,by rw[f];omega⟩;rw[d];refine ax (cc up r e) ?_;rw[hup];exact e6 (dh (show ac _<=ac _+ac _ from KU _ _)) (qy oM oM)
theorem LQ.mul {k l:Nat}{a b:Rat}(y:LQ k a)(u:LQ l b):LQ (k+l) (a*b):=by
 obtain ⟨i,o⟩:=y;obtain ⟨c,j⟩:=u;obtain ⟨h,d,f,e,x,hr0⟩:=lu a b _ _ rfl rfl;refine ⟨?_,?_⟩
 ·rw[h]
  have h1:=ax (cc _ _ f) i;have p:=ax (cc _ _ e) c;exact e6 (iZ _ _) oM
 ·rw[d]
  have h1:=ax (Bb a.den (Kq (ac b.num) a.den)) o;have p:=ax (Bb b.den (Kq (ac a.num) b.den)) j;exact e6 dD oM
theorem LQ.mono {k l:Nat}{a:Rat}(h:LQ k a)(b:k<=l):LQ l a:=⟨e6 h.1 b,e6 h.2 b⟩
def dQ (a b:Rat):Int:=fj (a.num*b.den) (b.num*a.den)
theorem fy {a b:Rat}(h1:a.den=1)(c:b.den=1):fj a.num b.num=dQ a b:=by unfold dQ;rw[h1,c];simp
theorem gR {a b:Rat}(h:(a.num.sign != b.num.sign)=true):fj a.num b.num=dQ a b:=by
 have h:a.num.sign≠b.num.sign:=by simpa using h
 have f:=a.den_pos;have e:=b.den_pos
 unfold dQ fj
 rcases KE a.num 0 with p|p|p<;>rcases KE b.num 0 with q|q|q
 ·exact absurd (by rw[Kl p,Kl q]) h
 ·have:a.num*(b.den:Int)<0:=KW p oM
  rw[q];simp;rw[if_pos p,if_pos this]
 ·have c:a.num*(b.den:Int)<0:=KW p oM
  have d:0<b.num*(a.den:Int):=KX q oM;rw[if_pos oM,if_pos oM]
 ·have:b.num*(a.den:Int)<0:=KW q oM
  rw[p];simp;rw[if_neg oM,if_pos q,if_neg oM,if_pos this]
 ·exact absurd (by rw[p,q]) h
 ·have:0<b.num*(a.den:Int):=KX q oM
  rw[p];simp;rw[if_pos q,if_pos this]
 ·have c:0<a.num*(b.den:Int):=KX p oM
  have d:b.num*(a.den:Int)<0:=KW q oM;rw[if_neg oM,if_pos oM,if_neg oM,if_pos oM]
 ·have:0<a.num*(b.den:Int):=KX p oM
  rw[q];simp;rw[if_neg oM,if_pos p,if_neg oM,if_pos this]
 ·exact absurd (by rw[Km p,Km q]) h
theorem Fg (a b:Rat)(y:LQ 100000000 a)(u:LQ 100000000 b)(d:a.den=1)(i:b.den=1)(w:World)(h:Hp)(g:G w h):CV 15 #[qv a,qv b] w h (iV (dQ a b)):=by
 have c:=sS g;have f:=y;have e:=u;obtain ⟨j,C⟩:=f;obtain ⟨l,B⟩:=e;have z:=dK a.num b.den;have x:=dK b.num a.den;refine go Tryz.func15 [(0,qv a),(1,qv b)] rfl (aD (lA 2 29 (qc a) c (fun p w2 J c=>lA 3 29 (qc b) c (fun k F I c=>lL c ae (ag (cQ (cR 13 [] mixed c ao ?_)))))));exact eO 0 5 [(1,0,5)] (qv a) c (aj 1 6 c (fun _ _ c=>cJ a aM aM _ _ c.g) (fun K D c=>eV 2 7 qT (eO 3 8 [(0,0,5)] (qv b) c (aj 4 9 c (fun _ _ c=>cJ b aM aM _ _ c.g) (fun H _ c=>eV 5 10 qT (eV 6 11 qT (eG 7 12 (eG 8 13 (eG 9 14 (eG 10 15 (eG 11 16 (eV 12 17 qT (ce c (fun _ _ c=>tN (bT (ab c [.v (pB p),.o (iv a.num) 1 0 3,.v (pB k),.o (iv b.num) 0 0 3] (ak 22 c (xj a.num b.num cP cP _ _ c.g) (fun _ _ c=>lL c ae (af c [] (iV (fj a.num b.num)) (congrArg (Value.int .i64) (by first|rfl|exact fy d i|exact gR ‹_›)))))))))))))))))))))
theorem Fo (a b:Rat)(x:LQ 100000000 a)(p:LQ 100000000 b)(d:a.den≠1)(w:World)(h:Hp)(g:G w h):CV 15 #[qv a,qv b] w h (iV (dQ a b)):=by
 have c:=sS g;have f:=x;have e:=p;obtain ⟨k,B⟩:=f;obtain ⟨l,z⟩:=e;have y:=dK a.num b.den;have u:=dK b.num a.den;refine go Tryz.func15 [(0,qv a),(1,qv b)] rfl (aD (lA 2 29 (qc a) c (fun j w2 I c=>lA 3 29 (qc b) c (fun i D H c=>lL c ae (ag (cQ (cR 13 [] mixed c ao ?_)))))));refine eO 0 5 [(1,0,5)] (qv a) c (aj 1 6 c (fun _ _ c=>fJ a aM aM _ _ c.g) (fun J C c=>eV 2 7 qF (eG 3 8 (eG 4 9 (eV 5 10 qF (eV 6 11 qF (eO 7 12 [(1,0,5)] (qv a) c (eO 9 14 [(0,0,5)] (qv b) c (aj 8 13 c (fun _ _ c=>en a aM _ _ c.g) (fun F _ c=>aj 10 15 c (fun _ _ c=>en b aM _ _ c.g) (fun _ _ c=>?_)))))))))));cases za:(((a.num).sign:Int) != ((b.num).sign:Int))
 .
  have zb:=aJ za;refine eB 11 16 za (eV 12 17 qF (ce c (fun _ _ c=>tN (dv (cK (cQ (cR 11 [] mixed c ao ?_)))))));exact eV 0 23 (pB j) (eO 1 24 [(1,0,3)] (iv a.num) c (eO 2 25 [(0,0,5)] (qv b) c (eV 5 28 (pB i) (eO 6 29 [(0,0,3)] (iv b.num) c (eO 7 30 [(1,0,5)] (qv a) c (aj 3 26 c (fun _ _ c=>fB b aM _ _ c.g) (fun _ _ c=>aj 4 27 c (fun _ _ c=>iF a.num b.den cP _ _ c.g) (fun _ _ c=>aj 8 31 c (fun _ _ c=>fB a aM _ _ c.g) (fun _ _ c=>aj 9 32 c (fun _ _ c=>iF b.num a.den cP _ _ c.g) (fun _ _ c=>aj 10 33 c (fun _ _ c=>xj (a.num*(b.den:Int)) (b.num*(a.den:Int)) cP cP _ _ c.g) (fun _ _ c=>ce c (fun _ _ c=>tV 11 4 (iV (fj (a.num*(b.den:Int)) (b.num*(a.den:Int)))) (tN (kX (c.ret [] (iV (fj (a.num*(b.den:Int)) (b.num*(a.den:Int)))) (congrArg (Value.int .i64) (by first|rfl|exact fy d hwb|exact gR ‹_›)))))))))))))))))
 have zb:=aU za;exact eB 11 16 za (eV 12 17 qT (ce c (fun _ _ c=>tN (bT (ab c [.v (pB j),.o (iv a.num) 1 0 3,.v (pB i),.o (iv b.num) 0 0 3] (ak 22 c (xj a.num b.num cP cP _ _ c.g) (fun _ _ c=>lL c ae (af c [] (iV (fj a.num b.num)) (congrArg (Value.int .i64) (by first|rfl|exact fy d hwb|exact gR ‹_›))))))))))
theorem FH (a b:Rat)(y:LQ 100000000 a)(u:LQ 100000000 b)(d:a.den=1)(e:b.den≠1)(w:World)(h:Hp)(g:G w h):CV 15 #[qv a,qv b] w h (iV (dQ a b)):=by
 have c:=sS g;have i:=y;have f:=u;obtain ⟨l,C⟩:=i;obtain ⟨p,B⟩:=f;have z:=dK a.num b.den;have x:=dK b.num a.den;refine go Tryz.func15 [(0,qv a),(1,qv b)] rfl (aD (lA 2 29 (qc a) c (fun k w2 J c=>lA 3 29 (qc b) c (fun j F I c=>lL c ae (ag (cQ (cR 13 [] mixed c ao ?_)))))));refine eO 0 5 [(1,0,5)] (qv a) c (aj 1 6 c (fun _ _ c=>cJ a aM aM _ _ c.g) (fun K D c=>eV 2 7 qT (eO 3 8 [(0,0,5)] (qv b) c (aj 4 9 c (fun _ _ c=>fJ b aM aM _ _ c.g) (fun H _ c=>eV 5 10 qF (eV 6 11 qF (eO 7 12 [(1,0,5)] (qv a) c (eO 9 14 [(0,0,5)] (qv b) c (aj 8 13 c (fun _ _ c=>en a aM _ _ c.g) (fun _ _ c=>aj 10 15 c (fun _ _ c=>en b aM _ _ c.g) (fun _ _ c=>?_)))))))))));cases za:(((a.num).sign:Int) != ((b.num).sign:Int))
 .
  have zb:=aJ za;refine eB 11 16 za (eV 12 17 qF (ce c (fun _ _ c=>tN (dv (cK (cQ (cR 11 [] mixed c ao ?_)))))));exact eV 0 23 (pB k) (eO 1 24 [(1,0,3)] (iv a.num) c (eO 2 25 [(0,0,5)] (qv b) c (eV 5 28 (pB j) (eO 6 29 [(0,0,3)] (iv b.num) c (eO 7 30 [(1,0,5)] (qv a) c (aj 3 26 c (fun _ _ c=>fB b aM _ _ c.g) (fun _ _ c=>aj 4 27 c (fun _ _ c=>iF a.num b.den cP _ _ c.g) (fun _ _ c=>aj 8 31 c (fun _ _ c=>fB a aM _ _ c.g) (fun _ _ c=>aj 9 32 c (fun _ _ c=>iF b.num a.den cP _ _ c.g) (fun _ _ c=>aj 10 33 c (fun _ _ c=>xj (a.num*(b.den:Int)) (b.num*(a.den:Int)) cP cP _ _ c.g) (fun _ _ c=>ce c (fun _ _ c=>tV 11 4 (iV (fj (a.num*(b.den:Int)) (b.num*(a.den:Int)))) (tN (kX (c.ret [] (iV (fj (a.num*(b.den:Int)) (b.num*(a.den:Int)))) (congrArg (Value.int .i64) (by first|rfl|exact fy d e|exact gR ‹_›)))))))))))))))))
 have zb:=aU za;exact eB 11 16 za (eV 12 17 qT (ce c (fun _ _ c=>tN (bT (ab c [.v (pB k),.o (iv a.num) 1 0 3,.v (pB j),.o (iv b.num) 0 0 3] (ak 22 c (xj a.num b.num cP cP _ _ c.g) (fun _ _ c=>lL c ae (af c [] (iV (fj a.num b.num)) (congrArg (Value.int .i64) (by first|rfl|exact fy d e|exact gR ‹_›))))))))))
theorem pe (a b:Rat)(d:LQ 100000000 a)(c:LQ 100000000 b)(w:World)(h:Hp)(g:G w h):CV 15 #[qv a,qv b] w h (iV (dQ a b)):=by
 by_cases h1:a.den=1
 ·by_cases h2:b.den=1
  ·exact Fg a b d c h1 h2 w h g
  ·exact FH a b d c h1 h2 w h g
 ·exact Fo a b d c h1 w h g
theorem iU {a b:Rat}:dQ a b<0↔a<b:=by
 unfold dQ fj
 rw[Rat.lt_iff]
 split
 ·simp;assumption
 ·split<;>simp<;>omega
theorem fa {a b:Rat}:dQ a b>0↔b<a:=by
 unfold dQ fj
 rw[Rat.lt_iff]
 split
 ·simp;omega
 ·split<;>simp<;>omega
def mkR (n d:Int):Rat:=mkRat (if d<0 then -n else n) (ac d)
theorem Hg (a b:Rat)(p:LQ 100000000 a)(k:LQ 100000000 b)(w:World)(h:Hp)(g:G w h):CV 118 #[qv a,qv b] w h (qv (if a<b then b else a)):=by
 have c:=sS g;refine go Tryz.func118 [(0,qv a),(1,qv b)] rfl (aD (lA 2 29 (qc a) c (fun j w2 x c=>lA 3 29 (qc b) c (fun f i l c=>lA 4 29 ca c (fun u y e c=>ag (ab c [.o (qv b) 1 0 5,.o (qv a) 2 0 5] (ak 7 c (pe b a aM aM _ _ c.g) (fun _ _ c=>?_))))))));cases za:(decide ((0:Int)<(dQ b a:Int)))
 .
  have zb:=oF za;exact lB 8 za (ai (cK (ab c [.o (qv a) 2 0 5] (lP 0 0 (qc a) c (fun _ c=>af c [(0,0,5)] (qv a) (by rw[if_neg (fun d=>by have:=fa.2 d;omega)]))))))
 have zb:=oT za;exact lB 8 za (au (ab c [.o (qv b) 1 0 5] (lP 0 0 (qc b) c (fun _ c=>af c [(0,0,5)] (qv b) (by rw[if_pos (fa.1 oM)])))))
theorem FJ (n d:Int)(hd:d<0)(b:(wds (ac n)).length<=1000000000)(l:(wds (ac d)).length<=1000000000)(w:World)(h:Hp)(g:G w h)(u:Tab h):CV 48 #[iv n,iv d] w h (.tuple #[qv (mkR n d),.bool true]):=by
 have a:=((sS g).add (K:=fun x=>Tab x) u);have i:=Kl hd;have k:0<ac d:=by unfold ac;omega
 have j:(wds (ac (-n))).length<=1000000000:=by unfold ac;rw[KV];exact b
 refine go Tryz.func48 [(0,iv n),(1,iv d)] rfl (aD (lA 2 27 (ic n) a (fun C w2 H a=>lA 3 27 (ic d) a (fun z B D a=>lA 4 29 ca a (fun F I y a=>lL a ae (ag (ab a [.o (iv d) 1 0 3] (ak 7 a (mL d cP _ _ a.g) (fun _ _ a=>?_)))))))));have za:(((d).sign:Int) == (0:Int))=false:=fl oM;have e:=ah za;refine lB 8 za (ai (cK (cQ (ab a [.o (iv d) 1 0 3] (ak 11 a (mL d cP _ _ a.g) (fun _ _ a=>?_))))));have ⟨zb,c⟩:=dT (p:=((d).sign:Int)<(0:Int)) oM;refine lB 12 zb (au (kQ (lL a [.o (iv n) 2 0 3] (ak 14 a (G9 n cP _ _ a.g) (fun _ _ a=>lP 2 0 (ic (-n)) a (fun _ a=>ag (cR 4 [] mixed a ao ?_)))))));exact eO 0 15 [(2,0,3)] (iv (-n)) a (eO 1 16 [(1,0,3)] (iv d) a (aj 2 17 a (fun _ _ a=>uM d _ _ a.g) (fun _ _ a=>aj 3 18 a (fun _ _ a=>tK (-n) (ac d) cP cP cP _ _ a.g a.f.1) (fun _ _ a=>ce a (fun _ _ a=>tP 4 0 0 (qc (mkRat (-n) (ac d))) a (fun _ a=>tV 5 5 qT (tN (kX (a.ret [(0,0,5)] (.tuple #[qv (mkRat (-n) (ac d)),qT]) (by unfold mkR;rw[if_pos hd]))))))))))
theorem Fw (n d:Int)(hd:0<d)(e:(wds (ac n)).length<=1000000000)(k:(wds (ac d)).length<=1000000000)(w:World)(h:Hp)(g:G w h)(l:Tab h):CV 48 #[iv n,iv d] w h (.tuple #[qv (mkR n d),.bool true]):=by
 have a:=((sS g).add (K:=fun u=>Tab u) l);have i:=Km hd;have j:0<ac d:=by unfold ac;omega
 refine go Tryz.func48 [(0,iv n),(1,iv d)] rfl (aD (lA 2 27 (ic n) a (fun B w2 F a=>lA 3 27 (ic d) a (fun y z C a=>lA 4 29 ca a (fun D H x a=>lL a ae (ag (ab a [.o (iv d) 1 0 3] (ak 7 a (mL d cP _ _ a.g) (fun _ _ a=>?_)))))))));have za:(((d).sign:Int) == (0:Int))=false:=fl oM;have c:=ah za;refine lB 8 za (ai (cK (cQ (ab a [.o (iv d) 1 0 3] (ak 11 a (mL d cP _ _ a.g) (fun _ _ a=>?_))))));have ⟨zb,b⟩:=dF (p:=((d).sign:Int)<(0:Int)) oM;refine lB 12 zb (ai (cK (cQ (cR 4 [] mixed a ao ?_))));exact eO 0 15 [(2,0,3)] (iv n) a (eO 1 16 [(1,0,3)] (iv d) a (aj 2 17 a (fun _ _ a=>uM d _ _ a.g) (fun _ _ a=>aj 3 18 a (fun _ _ a=>tK n (ac d) cP cP cP _ _ a.g a.f.1) (fun _ _ a=>ce a (fun _ _ a=>tP 4 0 0 (qc (mkRat n (ac d))) a (fun _ a=>tV 5 5 qT (tN (kX (a.ret [(0,0,5)] (.tuple #[qv (mkRat n (ac d)),qT]) (by unfold mkR;rw[if_neg oM]))))))))))
theorem Hs (n d:Int)(hd:d≠0)(b:(wds (ac n)).length<=1000000000)(a:(wds (ac d)).length<=1000000000)(w:World)(h:Hp)(g:G w h)(c:Tab h):CV 48 #[iv n,iv d] w h (.tuple #[qv (mkR n d),.bool true]):=by
 rcases KE d 0 with h1|h1|h1
 ·exact FJ n d h1 b a w h g c
 ·exact absurd h1 hd
 ·exact Fw n d h1 b a w h g c
theorem nz (a b:Rat)(I:LQ 100000000 a)(F:LQ 100000000 b)(hz:b.num≠0)(w:World)(h:Hp)(g:G w h)(J:Tab h):CV 83 #[qv a,qv b] w h (.tuple #[qv (a/b),.bool true]):=by
 have c:=((sS g).add (K:=fun B=>Tab B) J);have u:=I;have p:=F;obtain ⟨C,H⟩:=u;obtain ⟨k,y⟩:=p;have x:((b.num).sign == (0:Int))=false:=by simpa using hz
 obtain ⟨d,i⟩:=ux b hz;have j:(wds (ac (cM (decide ((b.num).sign<(0:Int))) b.den))).length<=100000000:=by rw[fh];exact y
 have l:LQ 100000000 b⁻¹:=⟨by rw[d];exact j,by rw[i];exact k⟩;have z:LQ 1000000000 b⁻¹:=l.mono oM;refine go Tryz.func83 [(0,qv a),(1,qv b)] rfl (aD (lA 2 29 (qc a) c (fun O w2 U c=>lA 3 29 (qc b) c (fun D M Q c=>lA 4 29 ca c (fun S V L c=>lL c ae (ag (ab c [.o (qv b) 1 0 5] (ak 7 c (en b aM _ _ c.g) (fun _ _ c=>lV 8 qF ?_ (hr:=rb (e:=((b.num).sign == (0:Int))) kR x))))))))));refine ai (cK (cQ (cR 12 [] mixed c ao ?_)));exact eO 0 10 [(2,0,5)] (qv a) c (eO 1 11 [(1,0,5)] (qv b) c (eO 4 14 [(1,0,5)] (qv b) c (eV 7 17 (pB D) (eO 8 18 [(1,0,3)] (iv b.num) c (aj 2 12 c (fun _ _ c=>en b aM _ _ c.g) (fun _ _ c=>eV 3 13 (.bool (decide (((b.num).sign:Int)<(0:Int)))) (aj 5 15 c (fun _ _ c=>fB b aM _ _ c.g) (fun _ _ c=>aj 6 16 c (fun _ _ c=>gc (decide (((b.num).sign:Int)<(0:Int))) b.den cP _ _ c.g) (fun _ _ c=>aj 9 19 c (fun _ _ c=>uM b.num _ _ c.g) (fun _ _ c=>aj 10 20 c (fun _ _ c=>kd b⁻¹ (cM (decide (((b.num).sign:Int)<(0:Int))) b.den) (ac b.num) d i.symm aM _ _ c.g) (fun _ _ c=>aj 11 21 c (fun _ _ c=>iL a (b⁻¹) aM aM _ _ c.g c.f.1) (fun _ _ c=>ce c (fun _ _ c=>tP 12 0 0 (qc (a*(b⁻¹))) c (fun _ c=>tV 13 5 qT (tN (kX (c.ret [(0,0,5)] (.tuple #[qv (a*(b⁻¹)),qT]) (by rw[Rat.div_def]))))))))))))))))))
theorem Gz (a:Rat)(p:LQ 100000000 (0:Rat))(w:World)(h:Hp)(g:G w h):CV 83 #[qv a,qv (0:Rat)] w h (.tuple #[qv 0,.bool false]):=by
 have b:=sS g;have d:((0:Rat).num).sign=0:=rfl;refine go Tryz.func83 [(0,qv a),(1,qv (0:Rat))] rfl (aD (lA 2 29 (qc a) b (fun k w2 l b=>lA 3 29 (qc (0:Rat)) b (fun f j i b=>lA 4 29 ca b (fun e x u b=>lL b ae (ag (ab b [.o (qv (0:Rat)) 1 0 5] (ak 7 b (en (0:Rat) aM _ _ b.g) (fun _ _ b=>?_)))))))));have za:((((0:Rat).num).sign:Int) == (0:Int))=true:=nJ oM;have c:=eq_of_beq za;exact lB 8 za (au (ab b [.v da] (lP 0 0 ca b (fun _ b=>lL b ae (af b [(0,0,5)] (.tuple #[.agg #[qF,uV 0,eS,uV 0,eS],qF]) rfl)))))
theorem vq (n d:Int)(hd:d≠0):(mkR n d).num=cM (av n != av d) (ac n/Kq (ac n) (ac d))/\(mkR n d).den=ac d/Kq (ac n) (ac d)/\0<Kq (ac n) (ac d):=by
  have c:0<ac d:=by unfold ac;omega
  have hz:ac (if d<0 then -n else n)=ac n:=by unfold ac;split<;>omega
  obtain ⟨h1,i,j,h⟩:=gu (if d<0 then -n else n) (ac d) c;rw[hz] at h1 i j h
  refine ⟨?_,i,h⟩;have f:=rp _ _ j;rw[hz] at f
  show (mkRat _ _).num=_
  rw[h1,<-f]
  by_cases hn:n=0
  . have hk:ac n/Kq (ac n) (ac d)=0:=by rw[hn];exact Nat.zero_div _
    rw[hk]
    unfold cM
    simp
  . have e:decide ((if d<0 then -n else n).sign<0)=(av n != av d):=by
      unfold av
      rcases KE n 0 with a|a|a
      . rcases KE d 0 with b|b|b
        . rw[if_pos b,Km oM];simp[a,b]
        . exact absurd b hd
        . rw[if_neg oM,Kl a];simp[a,show ¬d<0 by omega]
      . exact absurd a hn
      . rcases KE d 0 with b|b|b
        . rw[if_pos b,Kl oM];simp[show ¬n<0 by omega,b]
        . exact absurd b hd
        . rw[if_neg oM,Km a];simp[show ¬n<0 by omega,show ¬d<0 by omega]
    rw[e]
theorem uS {z:Int}(h0 : -9223372036854775808<=z)(h1:z<9223372036854775808):(lim (ac z)).length<=2:=ie (by unfold ac;omega)
theorem I8 (z:Int)(h0 : -9223372036854775808<=z)(h1:z<9223372036854775808)(w:World)(h:Hp)(g:G w h):CR 20 #[iV z] w h (fun v h1=>RQ h1 v (z:Rat)):=by
 have a:=sS g;refine go Tryz.func20 [(0,iV z)] rfl (aD (lA 2 39 ea a (fun l w2 o a=>a7 (lL a ae (lC 4 a (sR z oM oM _ _ a.g) ?_)))));rintro _ p k a ⟨c,d,rfl,e,b⟩;replace a:=a.aS b;refine lC 5 a (pq 1 oM _ _ a.g) ?_;rintro _ _ _ a ⟨za,zb,rfl,i,j⟩;replace a:=a.aS j;exact lL a [.v (.agg #[.bool (av z),qS c ((lim (ac z)).length) d,qS za ((lim 1).length) zb])] (lP 0 0 ([.bool (av z),qS c ((lim (ac z)).length) d,qS za ((lim 1).length) zb]) a (fun _ a=>af a [(0,0,3)] (.agg #[.bool (av z),qS c ((lim (ac z)).length) d,qS za ((lim 1).length) zb]) (by unfold RQ;rw[KR,KS];exact ⟨_,_,_,_,rfl,e,i,a.f.2.1,a.f.1⟩)))
theorem E0 {P:Program}{Γ:cH}{o:Oper}{t u:TypeId}{x y:Operand}{k ky:IntKind}{a n:Nat}(b:o.op=.binOp .shr t x y u)(e:ev Γ x=.int k (a:Int))(c:ev Γ y=.int ky (n:Int))(d:n<=k.bits)(w:World) :
  (execOp (ev Γ) o).run P w=.ok (.value (.int k ((a/2^n:Nat):Int))) w:=by
 have:=HO (P:=P) b e c d w;rw[show ((a:Int)/2^n)=((a/2^n:Nat):Int) by simp] at this
 exact this
theorem Ai {P:Program}{Γ:cH}{o:Oper}{t u:TypeId}{x y:Operand}{ky:IntKind}{a n:Nat}(b:o.op=.binOp .shl t x y u)(e:ev Γ x=.int .u32 (a:Int))(c:ev Γ y=.int ky (n:Int))(d:n<=32)(hf:a*2^n<4294967296)(w:World) :
  (execOp (ev Γ) o).run P w=.ok (.value (.int .u32 ((a*2^n:Nat):Int))) w:=by
 have:=Hk (P:=P) b e c d w;rw[show ((a:Int)*2^n)=((a*2^n:Nat):Int) by simp,HD hf] at this
 exact this
theorem uH (a:Nat)(A:Z9)(c:Nat)(W:(lim a).length<=c)(F:(lim a).length<=4000000000)(w:World)(h:Hp)(g:G w h)(V:S3 A (lim a) h):CR 97 #[.slice A ((lim a).length) c] w h (fun v h1=>∃ A,v=.slice A ((nb a+7)/8) ((nb a+7)/8)/\SlO 1 nw 0 h1 A (fT a ((nb a+7)/8))):=by
 have e:=((sS g).aS V);have M:=rP a;refine go Tryz.func97 [(0,qS A ((lim a).length) c)] rfl (ab e ae (a7 (lL e ae (ak 7 e (ws a A c W F _ _ e.g e.f.1) (fun w1 h2 e=>bM 8 ((nb a:Nat)+7) ((nb a)+7) (lV 9 (nV (((nb a)+7)/8)) ?_ (hr:=ba (dZ (t:=3) (u:=3) (x:=.tmp 8) (y:=.const (iV 8)) (k:=.i64) (a:=(((nb a)+7:Nat):Int)) (b:=(8:Int)) kR kR kR oM _) (dV ((nb a)+7) 8 oM))))))));refine lL e ae (a7 (lL e ae (lK 11 5 (((nb a)+7)/8:Nat) 1 1 (.int .u8 0) nw 0 e (fun p w4 O e=>?_))));have D:(y2 (((nb a)+7)/8:Nat) 0).length=(((nb a)+7)/8:Nat):=by simp
 refine lL e ae (ag (ab e ae (be ?_)));refine bU _ (CG.loop (fun C Γ Q=>∃ (i:Nat)(l:List Nat)(h_:Hp),C=((nb a+7)/8)-i/\Γ=[(0,qS A ((lim a).length) c),(2,sZ),(3,nV (((nb a)+7)/8)),(4,qS (sB p) (((nb a)+7)/8:Nat) (((nb a)+7)/8:Nat)),(5,nV i)]/\SS w h Q h_ [⟨p,5,(l).flatMap nw⟩] [] [S3 A (lim a)]/\i<=((nb a+7)/8)/\l.length=((nb a+7)/8)/\(∀ j,j<i->l.getD (((nb a+7)/8)-1-j) 0=a/256^j%256)) _ ⟨0,y2 (((nb a)+7)/8:Nat) 0,O,rfl,rfl,e.to _ _,JU _,D,(fun j I=>absurd I oM)⟩ ?_);rintro _ _ w7 ⟨i,l,S,Z,rfl,e,hi,z,L⟩;have hai:=(Ld.lim a).get (i/4);refine cQ (ab e aN ?_);cases za:(decide ((i:Int)<((((nb a)+7)/8:Nat):Int)))
 .
  have zb:=oF za;refine lB 14 za (ai (CG.exit ?_))
  show CG _ _ _ _ _ _ _ _
  refine ab e aN (lN (kX ?_));have X:i=((nb a+7)/8):=by omega
  have H:l=fT a ((nb a+7)/8):=sU z (fun j I=>L j oM);rw[H] at e
  obtain ⟨_,e,B,K,J⟩:=e.pub 0;replace e:=(e.to [] []).aS (SlO.of_flat (sz:=1) (f:=nw) (d:=0) (b:=p) (o:=0) (l:=fT a ((nb a+7)/8)) (fun _=>rfl) B);exact e.ret [] (qS (sB p) (((nb a)+7)/8:Nat) (((nb a)+7)/8:Nat)) (⟨sB p,rfl,e.f.1⟩)
 have zb:=oT za;refine lB 14 za (au (cK (cQ (kZ (kQ (lL e aN (bM 19 ((((nb a)+7)/8:Nat)-1) ((((nb a)+7)/8:Nat)-1) ?_)))))));refine lL e ae (bM 21 (((((nb a)+7)/8:Nat)-1:Nat)-(i:Nat)) (((((nb a)+7)/8:Nat)-1:Nat)-i) ?_);refine lL e aN (lV 24 (nV (i/4)) ?_ (hr:=ba (dZ (t:=3) (u:=3) (x:=.tmp 23) (y:=.const (iV 4)) (k:=.i64) (a:=(i:Int)) (b:=(4:Int)) kR kR kR oM _) (dV i 4 oM)));refine lX 25 A ((lim a).length) c 1 (i/4:Nat) (i/4) ((e.f.1).ok oM) (lH 26 (mW ((lim a).getD (i/4) 0)) e ((e.f.1).el (i/4) oM) (lL e ae (lV 28 (nV (i%4)) ?_ (hr:=ba (gn (t:=3) (u:=3) (x:=.tmp 27) (y:=.const (iV 4)) (k:=.i64) (a:=(i:Int)) (b:=(4:Int)) kR kR kR oM _) (dY i 4)))));refine bM 29 (8*(i%4:Nat)) (8*(i%4)) (lV 30 (mV (8*(i%4))) ?_ (hr:=rU (((8*(i%4):Nat):Int)) kR (bX oM oM)));refine lV 31 (mW ((lim a).getD (i/4) 0/2^(8*(i%4)))) ?_ (hr:=E0 (t:=170) (u:=171) (x:=.tmp 26) (y:=.tmp 30) (k:=.u32) (ky:=.u64) (a:=(lim a).getD (i/4) 0) (n:=8*(i%4)) kR kR kR (show 8*(i%4)<=32 by omega) _);refine lV 32 (.int .u8 ((lim a).getD (i/4) 0/2^(8*(i%4))%256:Nat)) ?_ (hr:=ba (n:=IntKind.wrap .u8 (((lim a).getD (i/4) 0/2^(8*(i%4)):Nat):Int)) kR (BB _));refine lX 33 (sB p) (((nb a)+7)/8:Nat) (((nb a)+7)/8:Nat) 1 (((((nb a)+7)/8:Nat)-1:Nat)-i:Nat) (((((nb a)+7)/8:Nat)-1:Nat)-i:Nat) rfl (lW 0 l nw 1 (((((nb a)+7)/8:Nat)-1:Nat)-i:Nat) ((lim a).getD (i/4) 0/2^(8*(i%4))%256:Nat) e oM (fun _ e=>?_));have Y:((l).set (((((nb a)+7)/8:Nat)-1:Nat)-i:Nat) ((lim a).getD (i/4) 0/2^(8*(i%4))%256:Nat)).length=(((nb a)+7)/8:Nat):=by rw[JJ];exact z
 replace e:=e.to [⟨p,5,((l).set (((((nb a)+7)/8:Nat)-1:Nat)-i:Nat) ((lim a).getD (i/4) 0/2^(8*(i%4))%256:Nat)).flatMap nw⟩] [];refine lN (kQ (lL e ae (bM 16 ((i:Nat)+1) (i+1) ?_)));refine lL e ae (lD ?_);intro a_ U;refine ⟨_,_,?_,⟨i+1,(l).set (((((nb a)+7)/8:Nat)-1:Nat)-i:Nat) ((lim a).getD (i/4) 0/2^(8*(i%4))%256:Nat),S,rfl,rfl,e.to _ _,oM,Y,(gY z oM L (vZ a i))⟩,U.to _ kR⟩
 omega
end Go.Proofs.YteipbelehcpooaaGreatDoor
