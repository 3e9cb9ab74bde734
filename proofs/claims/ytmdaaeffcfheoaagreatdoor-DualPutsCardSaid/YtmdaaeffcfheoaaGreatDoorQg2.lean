/- Laws of this claim, part 3. -/
import Derived.Test.YtmdaaeffcfheoaaGreatDoorQg0
import Derived.Test.YtmdaaeffcfheoaaGreatDoorQg1
set_option maxRecDepth 100000
set_option maxHeartbeats 4000000
namespace Go.Proofs.YtmdaaeffcfheoaaGreatDoor
open Int renaming divExact_eq_ediv -> Hd, dvd_refl -> Ha, dvd_trans -> G7, eq_ofNat_of_zero_le -> GH, lt_trichotomy -> G3, mul_ediv_cancel_left -> G2, mul_neg -> GI, mul_neg_of_neg_of_pos -> Hn, mul_pos -> Ho, natAbs_add_le -> Hl, natAbs_dvd -> G9, natAbs_mul -> G0, natAbs_natCast -> G1, natAbs_neg -> Hm, natCast_dvd_natCast -> G8, neg_mul -> GJ, neg_neg -> GK, sign_eq_neg_one_of_neg -> GL, sign_eq_one_of_pos -> GM
open List renaming drop_eq_nil_of_le -> yC, drop_zero -> yu, flatMap_cons -> ys, length -> GV, length_drop -> zy, length_set -> Gq, length_take -> y9, mem_cons -> g3, mem_cons_of_mem -> GG, mem_cons_self -> GF, mem_singleton -> ul, replicate -> yJ, set_set -> GC, take_length -> yw, take_of_length_le -> Ft, take_set -> GS, toArray -> GX
open Nat renaming add_sub_cancel -> F7, add_zero -> yt, divExact_eq_div -> He, div_eq_of_lt -> z1, div_le_self -> zY, eq_of_mul_eq_mul_left -> GO, eq_zero_or_pos -> yU, gcd -> GP, gcd_comm -> GB, gcd_dvd_left -> G5, gcd_dvd_right -> G6, gcd_le_left -> GW, gcd_le_right -> Hk, gcd_mul_left -> GR, gcd_pos_of_pos_right -> G4, gcd_zero_right -> GZ, le_mul_of_pos_left -> GU, le_of_eq -> GE, le_of_lt -> GY, le_total -> GQ, le_trans -> ez, lt_of_lt_of_le -> e4, lt_or_ge -> ep, min_eq_left -> Ag, min_eq_right -> F9, mod_eq_of_lt -> yL, mod_lt -> yM, mul_add -> z8, mul_assoc -> Ab, mul_comm -> y8, mul_div_cancel_left -> GT, mul_one -> F8, mul_zero -> Ah, pow_add -> A4, pow_le_pow_right -> Aw, pow_mul -> A7, pow_succ -> z6, pow_zero -> Gy, sub_le -> GN, two_pow_pos -> As, zero_add -> yF, zero_le -> GA, zero_mod -> Gs
open Rat renaming add -> Hb, den_intCast -> Hh, maybeNormalize -> Hc, mul -> Hf, neg_den -> Hj, neg_num -> Hi, num_intCast -> Hg
open Go.RowKit
open Go.RowKit Go.Shelf
theorem xQ (a b:Nat)(hla:(wds a).length<=1000000000)(hlb:(wds b).length<=1000000000)(ha0:0<a)(hbs:18446744073709551616<=b)(hlt:(wds a).length<(wds b).length)(w:World)(h:Hp)(g:G w h):CV 79 #[nv a,nv b] w h (nv (a+b)):=by
 have e:=sS g;refine go Tryz.func79 [(0,nv a),(1,nv b)] rfl (aD (lA 2 35 (nc a) e (fun D w2 h3 e=>lA 3 35 (nc b) e (fun C w5 h6 e=>lA 4 35 ([uV 0,eS]) e (fun F w8 h9 e=>?_)))));refine lN (CG.join (fun Γ w_=>∃  (h_:Hp),Γ=[(2,pB D),(3,pB C),(4,pB F)]/\SS w h w_ h_ [⟨F,35,[uV 0,eS]⟩,⟨C,35,nc b⟩,⟨D,35,nc a⟩] [] []) ?_ ?_)
 .
  refine aa e [.v (qP D 1),.o (.string (hi a)) 2 1 1] ?_;cases za:(oJ (hi a) (⟨#[]⟩))
  .
   have zg:=oy za;refine lB 14 za (lL e ac (lG 16 ?_));refine lG 17 (lG 18 (lL e [.v qF] (aj (CG.skip ?_))));intro a_ I;exact ⟨_,⟨h9,rfl,e.to _ _⟩,I.to _ kR⟩
  have zg:=oW za;refine lB 14 za (lL e [.c,.v (qP C 1),.o (.string (hi b)) 1 1 1] (lV 18 qF ?_ (hr:=rb kR (gn (dS hbs)))));refine lL e [.v qF] (aj (CG.skip ?_));intro a_ I;exact ⟨_,⟨h9,rfl,e.to _ _⟩,I.to _ kR⟩
 rintro _ zp ⟨_,rfl,e⟩;refine cQ ?_;obtain ⟨L,hK_⟩:∃ L,L=zp.heap.size:=⟨_,rfl⟩;have bf:F<L:=by rw[hK_];exact dR e 0
 have H:C<L:=by rw[hK_];exact dR e 1
 have J:D<L:=by rw[hK_];exact dR e 2
 refine vk ⟨[],some (L,[])⟩ 0 mixed ?_;have bl:=e.g.size;replace e:=e.drew;have B:=GE hK_;refine zO 0 36 [(2,0,2)] (nv a) rfl B e (fun p hp=>by obtain rfl:=ul.1 hp;exact J) (zO 2 38 [(1,0,2)] (nv b) rfl B e (fun p hp=>by obtain rfl:=ul.1 hp;exact H) (oY 1 37 (ej a oM oM _ _ e.g) rfl B ?_));rintro _ _ _ u15 B ⟨u,rfl,W,Y,b0⟩;obtain ⟨_,e,-,-⟩:=e.take u15 W Y;replace e:=e.to [⟨u,33,(wds a).flatMap ag⟩,⟨F,35,[uV 0,eS]⟩,⟨C,35,nc b⟩,⟨D,35,nc a⟩] [];refine oY 3 39 (ej b oM oM _ _ e.g) rfl B ?_;rintro _ _ _ u19 B ⟨j,rfl,V,M,bk⟩;obtain ⟨zq,e,-,-⟩:=e.take u19 V M;replace e:=e.to [⟨j,33,(wds b).flatMap ag⟩,⟨u,33,(wds a).flatMap ag⟩,⟨F,35,[uV 0,eS]⟩,⟨C,35,nc b⟩,⟨D,35,nc a⟩] [];refine zV 4 7 (qS (sB u) ((wds a).length) ((wds a).length)) (zV 5 8 (qS (sB j) ((wds b).length) ((wds b).length)) (tN (cQ (aa e [.c,.v (nV ((wds a).length)),.c,.v (nV ((wds b).length))] ?_))));have ⟨zm,bd⟩:=dT (p:=(((wds a).length:Nat):Int)<(((wds b).length:Nat):Int)) oM;refine lB 44 zm (ar (kQ (lL e m9 (aK (lL e ac (af (aa e [.c,.v (nV ((wds b).length)),.c] (ba ?_))))))));refine bS _ (CG.loop (fun μ_ Γ w_=>∃ (i:Nat)(l:List Nat)(x:Nat)(h_:Hp),μ_=(wds b).length-i/\Γ=[(4,pB F),(7,qS (sB j) ((wds b).length) ((wds b).length)),(8,qS (sB u) ((wds a).length) ((wds a).length)),(48,nV ((wds b).length)),(49,nV i),(9,mV x)]/\SS w h w_ h_ [⟨j,33,(l).flatMap ag⟩,⟨u,33,(wds a).flatMap ag⟩,⟨F,35,[uV 0,eS]⟩,⟨C,35,nc b⟩,⟨D,35,nc a⟩] [] []/\i<=(wds b).length/\l.length=(wds b).length/\Wd l/\x<=1/\ah 18446744073709551616 l+18446744073709551616^i*x=b+ah 18446744073709551616 ((wds a:List Nat).take i)) _ ⟨0,wds b,0,zq,rfl,rfl,e.to _ _,GA _,rfl,Wd.wds _,oM,(by have hx_:ah 18446744073709551616 (wds b)=b:=aI _;rw[hx_];simp[ah])⟩ ?_);rintro _ _ _ ⟨i,l,x,zl,bz,rfl,e,hi,X,O,hcy,inv⟩;have hlk:=O.get i;have hyk:=(Wd.wds a).get i;refine aD ?_;cases zb:(decide ((i:Int)<(((wds b).length:Nat):Int)))
 .
  have zi:=oF zb;refine lB 50 zb (af (cG (CG.exit ?_)))
  show CG _ _ _ _ _ _ _ _
  refine cQ (aD ?_);have K:=inv;rw[Ft (show (wds a).length<=i by first|omega|(simp;done)|(simp;omega))] at K
  rw[show i=l.length by omega] at K
  have hE_:ah 18446744073709551616 (wds a)=a:=aI _;replace K:ah 18446744073709551616 l+18446744073709551616^l.length*x=(a+b):=by rw[K,hE_];first|done|omega
  refine lL e ac ?_;cases Z:((x:Int) != (0:Int))
  .
   have zj:=aJ Z;refine lB 75 Z (aj (cK (aD ?_)));obtain ⟨_,e,S,bn,bm⟩:=e.pub 0;replace e:=(e.to [⟨u,33,(wds a).flatMap ag⟩,⟨F,35,[uV 0,eS]⟩,⟨C,35,nc b⟩,⟨D,35,nc a⟩] []).aS (SlO.of_flat (sz:=1) (f:=ag) (d:=0) (b:=j) (o:=0) (l:=l) (fun _=>rfl) S);exact lL e ac (ao 81 e (co (sB j) ((wds b).length) (l) ((wds b).length) ((a+b)) (by first|rfl|assumption|(simp;done)|(simp;omega)|omega) (O) (by rw[show x=0 by omega,Ah,yt] at K;exact K) sM sM _ _ e.g e.f.1) (fun _ _ e=>lP 1 0 (nc (a+b)) e (fun _ e=>ae e [(1,0,2)] (nv (a+b)) rfl)))
  have zj:=aU Z;refine lB 75 Z (ar (kQ (lL e aF (lR 78 33 1 ([mV x]) e (fun zr _ _ e=>EJ 79 0 ((wds b).length) zr l ag 0 x 8 (uV 0) e e.f.1 oM oM (fun zs zt _ _ e bb=>?_))))));replace e:=e.to [⟨u,33,(wds a).flatMap ag⟩,⟨F,35,[uV 0,eS]⟩,⟨C,35,nc b⟩,⟨D,35,nc a⟩] [];exact lL e ac (aK (lL e ac (ao 81 e (co zs zt (l++[x]) ((wds b).length+1) ((a+b)) (by first|rfl|assumption|(simp;done)|(simp;omega)|omega) (Dg.append O (Dg.one oM)) (by show ah _ (l++[x])=_;rw[dj];show _+_*(x+_*0)=_;rw[Ah,yt];exact K) sM sM _ _ e.g e.f.1) (fun _ _ e=>lP 1 0 (nc (a+b)) e (fun _ e=>ae e [(1,0,2)] (nv (a+b)) rfl)))))
 have zi:=oT zb;refine lB 50 zb (af (bY (cK (cQ (kZ (aa e aF (aK (lL e ac (af (aa e [.c,.c,.v (nV ((wds a).length))] ?_))))))))));cases zd:(decide ((i:Int)<(((wds a).length:Nat):Int)))
 .
  have zk:=oF zd;refine lB 55 zd (aj (cK (kQ (lL e m9 (lX 65 (sB j) ((wds b).length) ((wds b).length) 1 (i:Nat) i rfl ?_)))));refine lQ 66 0 l ag 1 0 i (mV ((l).getD i 0)) e oM (lL e aF ?_);obtain ⟨y,ze,bq,bt,b5,Q⟩:=dv ((l).getD i 0) 0 x wM wM oM;refine lV 69 (.tuple #[mV y,mV ze]) ?_ (hr:=dd kR (Q _));refine lL e [.c,.v (mV y),.v (mV ze)] (lX 72 (sB j) ((wds b).length) ((wds b).length) 1 (i:Nat) i rfl ?_);refine lW 0 l ag 1 i y e oM (fun _ e=>?_);have zn:((l).set i y).length=(wds b).length:=by rw[Gq];exact X
  replace e:=e.to [⟨j,33,((l).set i y).flatMap ag⟩,⟨u,33,(wds a).flatMap ag⟩,⟨F,35,[uV 0,eS]⟩,⟨C,35,nc b⟩,⟨D,35,nc a⟩] [];refine lL e ac (lN (kQ (bA 73 ((i:Nat)+1) (i+1) ?_)));refine lL e ac (lD ?_);intro a_ I;refine ⟨_,_,?_,⟨i+1,(l).set i y,ze,zl,rfl,rfl,e.to _ _,oM,zn,(O.set _ oM),oM,(fi oM inv (by first|omega|(have hy0:=bP (l:=(wds a:List Nat)) (k:=i) (by first|omega|(simp;done));omega)))⟩,I.to _ kR⟩
  omega
 have zk:=oT zd;refine lB 55 zd (ar (kQ (lL e aF (lX 58 (sB u) ((wds a).length) ((wds a).length) 1 (i:Nat) i rfl ?_))));refine lQ 59 1 (wds a) ag 1 0 i (mV ((wds a).getD i 0)) e oM (lL e ac (lN (kQ (lL e m9 (lX 65 (sB j) ((wds b).length) ((wds b).length) 1 (i:Nat) i rfl ?_)))));refine lQ 66 0 l ag 1 0 i (mV ((l).getD i 0)) e oM (lL e aF ?_);obtain ⟨z,zf,b3,bx,b2,U⟩:=dv ((l).getD i 0) ((wds a).getD i 0) x wM wM oM;refine lV 69 (.tuple #[mV z,mV zf]) ?_ (hr:=dd kR (U _));refine lL e [.c,.v (mV z),.v (mV zf)] (lX 72 (sB j) ((wds b).length) ((wds b).length) 1 (i:Nat) i rfl ?_);refine lW 0 l ag 1 i z e oM (fun _ e=>?_);have zo:((l).set i z).length=(wds b).length:=by rw[Gq];exact X
 replace e:=e.to [⟨j,33,((l).set i z).flatMap ag⟩,⟨u,33,(wds a).flatMap ag⟩,⟨F,35,[uV 0,eS]⟩,⟨C,35,nc b⟩,⟨D,35,nc a⟩] [];refine lL e ac (lN (kQ (bA 73 ((i:Nat)+1) (i+1) ?_)));refine lL e ac (lD ?_);intro a_ I;refine ⟨_,_,?_,⟨i+1,(l).set i z,zf,zl,rfl,rfl,e.to _ _,oM,zo,(O.set _ oM),oM,(fi oM inv (by first|omega|(have hy0:=bP (l:=(wds a:List Nat)) (k:=i) (by first|omega|(simp;done));omega)))⟩,I.to _ kR⟩
 omega
theorem CA (b:Nat)(hl:(wds b).length<=1000000000)(K:18446744073709551616<=b)(w:World)(h:Hp)(g:G w h):CV 79 #[nv 0,nv b] w h (nv (0+b)):=by
 have a:=sS g;have h2l:=bU K;refine go Tryz.func79 [(0,nv 0),(1,nv b)] rfl (aD (lA 2 35 (nc 0) a (fun y w2 h3 a=>lA 3 35 (nc b) a (fun B w5 h6 a=>lA 4 35 ([uV 0,eS]) a (fun C w8 h9 a=>af (aa a [.v (qP y 1),.o (.string (hi 0)) 2 1 1] (lV 14 qT ?_ (hr:=rb kR (ip rfl)))))))));refine lL a [.c,.v (qP B 1),.o (.string (hi b)) 1 1 1] (lV 18 qF ?_ (hr:=rb kR (gn (dS K))));refine lL a [.v qF] (aj (cK (cQ ?_)));obtain ⟨H,hK_⟩:∃ H,H=w8.heap.size:=⟨_,rfl⟩;have Z:C<H:=by rw[hK_];exact dR a 0
 have D:B<H:=by rw[hK_];exact dR a 1
 have F:y<H:=by rw[hK_];exact dR a 2
 refine vk ⟨[],some (H,[])⟩ 0 mixed ?_;have bl:=a.g.size;replace a:=a.drew;have u:=GE hK_;refine zO 0 36 [(2,0,2)] (nv 0) rfl u a (fun p X=>by obtain rfl:=ul.1 X;exact F) (zO 2 38 [(1,0,2)] (nv b) rfl u a (fun p X=>by obtain rfl:=ul.1 X;exact D) (oY 1 37 (jd _ _ a.g) rfl u ?_));rintro _ _ _ u12 u rfl;replace a:=a.step u12;refine oY 3 39 (ej b oM oM _ _ a.g) rfl u ?_;rintro _ _ _ W u ⟨e,rfl,L,M,bq⟩;obtain ⟨zj,a,-,-⟩:=a.take W L M;replace a:=a.to [⟨e,33,(wds b).flatMap ag⟩,⟨C,35,[uV 0,eS]⟩,⟨B,35,nc b⟩,⟨y,35,nc 0⟩] [];refine zV 4 7 (sZ) (zV 5 8 (qS (sB e) ((wds b).length) ((wds b).length)) (tN (cQ (aa a [.c,.v (iV 0),.c,.v (nV ((wds b).length))] ?_))));have ⟨zf,Y⟩:=dT (p:=(0:Int)<(((wds b).length:Nat):Int)) oM;refine lB 44 zf (ar (kQ (lL a m9 (aK (lL a ac (af (aa a [.c,.v (nV ((wds b).length)),.c] (ba ?_))))))));refine bS _ (CG.loop (fun μ_ Γ w_=>∃ (i:Nat)(l:List Nat)(j:Nat)(h_:Hp),μ_=(wds b).length-i/\Γ=[(4,pB C),(7,qS (sB e) ((wds b).length) ((wds b).length)),(8,sZ),(48,nV ((wds b).length)),(49,nV i),(9,mV j)]/\SS w h w_ h_ [⟨e,33,(l).flatMap ag⟩,⟨C,35,[uV 0,eS]⟩,⟨B,35,nc b⟩,⟨y,35,nc 0⟩] [] []/\i<=(wds b).length/\l.length=(wds b).length/\Wd l/\j<=1/\ah 18446744073709551616 l+18446744073709551616^i*j=b+ah 18446744073709551616 (([]:List Nat).take i)) _ ⟨0,wds b,0,zj,rfl,rfl,a.to _ _,GA _,rfl,Wd.wds _,oM,(by have V:ah 18446744073709551616 (wds b)=b:=aI _;rw[V];simp[ah])⟩ ?_);rintro _ _ _ ⟨i,l,j,zk,bk,rfl,a,hi,U,O,hcy,inv⟩;have hlk:=O.get i;have hyk:=Wd.get (l:=[]) Dg.nil i;refine aD ?_;cases S:(decide ((i:Int)<(((wds b).length:Nat):Int)))
 .
  have zd:=oF S;refine lB 50 S (af (cG (CG.exit ?_)))
  show CG _ _ _ _ _ _ _ _
  refine cQ (aD ?_);have z:=inv;rw[Ft (show ([]).length<=i by first|omega|(simp;done)|(simp;omega))] at z
  rw[show i=l.length by omega] at z
  have hE_:([]:List Nat)=[]:=rfl;replace z:ah 18446744073709551616 l+18446744073709551616^l.length*j=(0+b):=by rw[z];simp[ah]
  refine lL a ac ?_;cases Q:((j:Int) != (0:Int))
  .
   have ze:=aJ Q;refine lB 75 Q (aj (cK (aD ?_)));obtain ⟨_,a,I,bf,bt⟩:=a.pub 0;replace a:=(a.to [⟨C,35,[uV 0,eS]⟩,⟨B,35,nc b⟩,⟨y,35,nc 0⟩] []).aS (SlO.of_flat (sz:=1) (f:=ag) (d:=0) (b:=e) (o:=0) (l:=l) (fun _=>rfl) I);exact lL a ac (ao 81 a (co (sB e) ((wds b).length) (l) ((wds b).length) ((0+b)) (by first|rfl|assumption|(simp;done)|(simp;omega)|omega) (O) (by rw[show j=0 by omega,Ah,yt] at z;exact z) sM sM _ _ a.g a.f.1) (fun _ _ a=>lP 0 0 (nc (0+b)) a (fun _ a=>ae a [(0,0,2)] (nv (0+b)) rfl)))
  have ze:=aU Q;refine lB 75 Q (ar (kQ (lL a aF (lR 78 33 1 ([mV j]) a (fun zl _ _ a=>EJ 79 0 ((wds b).length) zl l ag 0 j 8 (uV 0) a a.f.1 oM oM (fun zm zn _ _ a bd=>?_))))));replace a:=a.to [⟨C,35,[uV 0,eS]⟩,⟨B,35,nc b⟩,⟨y,35,nc 0⟩] [];exact lL a ac (aK (lL a ac (ao 81 a (co zm zn (l++[j]) ((wds b).length+1) ((0+b)) (by first|rfl|assumption|(simp;done)|(simp;omega)|omega) (Dg.append O (Dg.one oM)) (by show ah _ (l++[j])=_;rw[dj];show _+_*(j+_*0)=_;rw[Ah,yt];exact z) sM sM _ _ a.g a.f.1) (fun _ _ a=>lP 0 0 (nc (0+b)) a (fun _ a=>ae a [(0,0,2)] (nv (0+b)) rfl)))))
 have zd:=oT S;refine lB 50 S (af (bY (cK (cQ (kZ (aa a aF (aK (lL a ac (af (aa a [.c,.c,.v (iV 0)] ?_))))))))));have ⟨zg,bb⟩:=dF (p:=(i:Int)<(0:Int)) oM;refine lB 55 zg (aj (cK (kQ (lL a m9 (lX 65 (sB e) ((wds b).length) ((wds b).length) 1 (i:Nat) i rfl ?_)))));refine lQ 66 0 l ag 1 0 i (mV ((l).getD i 0)) a oM (lL a aF ?_);obtain ⟨x,zc,bx,bn,bm,J⟩:=dv ((l).getD i 0) 0 j wM wM oM;refine lV 69 (.tuple #[mV x,mV zc]) ?_ (hr:=dd kR (J _));refine lL a [.c,.v (mV x),.v (mV zc)] (lX 72 (sB e) ((wds b).length) ((wds b).length) 1 (i:Nat) i rfl ?_);refine lW 0 l ag 1 i x a oM (fun _ a=>?_);have zi:((l).set i x).length=(wds b).length:=by rw[Gq];exact U
 replace a:=a.to [⟨e,33,((l).set i x).flatMap ag⟩,⟨C,35,[uV 0,eS]⟩,⟨B,35,nc b⟩,⟨y,35,nc 0⟩] [];refine lL a ac (lN (kQ (bA 73 ((i:Nat)+1) (i+1) ?_)));refine lL a ac (lD ?_);intro a_ ka;refine ⟨_,_,?_,⟨i+1,(l).set i x,zc,zk,rfl,rfl,a.to _ _,oM,zi,(O.set _ oM),oM,(fi oM inv (by first|omega|(have hy0:=bP (l:=([]:List Nat)) (k:=i) (by first|omega|(simp;done));omega)))⟩,ka.to _ kR⟩
 omega
theorem Ba (a:Nat)(hl:(wds a).length<=1000000000)(L:18446744073709551616<=a)(w:World)(h:Hp)(g:G w h):CV 79 #[nv a,nv 0] w h (nv (a+0)):=by
 have e:=sS g;have h2l:=bU L;refine go Tryz.func79 [(0,nv a),(1,nv 0)] rfl (aD (lA 2 35 (nc a) e (fun z w2 h3 e=>lA 3 35 (nc 0) e (fun I w5 h6 e=>lA 4 35 ([uV 0,eS]) e (fun C w8 h9 e=>af (aa e [.v (qP z 1),.o (.string (hi a)) 2 1 1] (lV 14 qF ?_ (hr:=rb kR (gn (dS L))))))))));refine lL e ac (lG 16 ?_);refine lG 17 (lG 18 (lL e [.v qF] (aj (cK (cQ ?_)))));obtain ⟨H,hK_⟩:∃ H,H=w8.heap.size:=⟨_,rfl⟩;have bb:C<H:=by rw[hK_];exact dR e 0
 have D:I<H:=by rw[hK_];exact dR e 1
 have F:z<H:=by rw[hK_];exact dR e 2
 refine vk ⟨[],some (H,[])⟩ 0 mixed ?_;have bm:=e.g.size;replace e:=e.drew;have x:=GE hK_;refine zO 0 36 [(2,0,2)] (nv a) rfl x e (fun p X=>by obtain rfl:=ul.1 X;exact F) (zO 2 38 [(1,0,2)] (nv 0) rfl x e (fun p X=>by obtain rfl:=ul.1 X;exact D) (oY 1 37 (ej a oM oM _ _ e.g) rfl x ?_));rintro _ _ _ u12 x ⟨j,rfl,M,O,bt⟩;obtain ⟨_,e,-,-⟩:=e.take u12 M O;replace e:=e.to [⟨j,33,(wds a).flatMap ag⟩,⟨C,35,[uV 0,eS]⟩,⟨I,35,nc 0⟩,⟨z,35,nc a⟩] [];refine oY 3 39 (jd _ _ e.g) rfl x ?_;rintro _ _ zj Y x rfl;replace e:=e.step Y;refine zV 4 7 (qS (sB j) ((wds a).length) ((wds a).length)) (zV 5 8 (sZ) (tN (cQ (aa e [.c,.v (nV ((wds a).length)),.c,.v (iV 0)] ?_))));have ⟨zf,Z⟩:=dF (p:=(((wds a).length:Nat):Int)<(0:Int)) oM;refine lB 44 zf (aj (cK (aa e ac (af (aa e [.c,.v (nV ((wds a).length)),.c] (ba ?_))))));refine bS _ (CG.loop (fun μ_ Γ w_=>∃ (i:Nat)(l:List Nat)(u:Nat)(h_:Hp),μ_=(wds a).length-i/\Γ=[(4,pB C),(7,qS (sB j) ((wds a).length) ((wds a).length)),(8,sZ),(48,nV ((wds a).length)),(49,nV i),(9,mV u)]/\SS w h w_ h_ [⟨j,33,(l).flatMap ag⟩,⟨C,35,[uV 0,eS]⟩,⟨I,35,nc 0⟩,⟨z,35,nc a⟩] [] []/\i<=(wds a).length/\l.length=(wds a).length/\Wd l/\u<=1/\ah 18446744073709551616 l+18446744073709551616^i*u=a+ah 18446744073709551616 (([]:List Nat).take i)) _ ⟨0,wds a,0,zj,rfl,rfl,e.to _ _,GA _,rfl,Wd.wds _,oM,(by have W:ah 18446744073709551616 (wds a)=a:=aI _;rw[W];simp[ah])⟩ ?_);rintro _ _ _ ⟨i,l,u,zk,bl,rfl,e,hi,V,Q,hcy,inv⟩;have hlk:=Q.get i;have hyk:=Wd.get (l:=[]) Dg.nil i;refine aD ?_;cases U:(decide ((i:Int)<(((wds a).length:Nat):Int)))
 .
  have zd:=oF U;refine lB 50 U (af (cG (CG.exit ?_)))
  show CG _ _ _ _ _ _ _ _
  refine cQ (aD ?_);have B:=inv;rw[Ft (show ([]).length<=i by first|omega|(simp;done)|(simp;omega))] at B
  rw[show i=l.length by omega] at B
  have hE_:([]:List Nat)=[]:=rfl;replace B:ah 18446744073709551616 l+18446744073709551616^l.length*u=(a+0):=by rw[B];simp[ah]
  refine lL e ac ?_;cases S:((u:Int) != (0:Int))
  .
   have ze:=aJ S;refine lB 75 S (aj (cK (aD ?_)));obtain ⟨_,e,J,bk,bx⟩:=e.pub 0;replace e:=(e.to [⟨C,35,[uV 0,eS]⟩,⟨I,35,nc 0⟩,⟨z,35,nc a⟩] []).aS (SlO.of_flat (sz:=1) (f:=ag) (d:=0) (b:=j) (o:=0) (l:=l) (fun _=>rfl) J);exact lL e ac (ao 81 e (co (sB j) ((wds a).length) (l) ((wds a).length) ((a+0)) (by first|rfl|assumption|(simp;done)|(simp;omega)|omega) (Q) (by rw[show u=0 by omega,Ah,yt] at B;exact B) sM sM _ _ e.g e.f.1) (fun _ _ e=>lP 0 0 (nc (a+0)) e (fun _ e=>ae e [(0,0,2)] (nv (a+0)) rfl)))
  have ze:=aU S;refine lB 75 S (ar (kQ (lL e aF (lR 78 33 1 ([mV u]) e (fun zl _ _ e=>EJ 79 0 ((wds a).length) zl l ag 0 u 8 (uV 0) e e.f.1 oM oM (fun zm zn _ _ e bf=>?_))))));replace e:=e.to [⟨C,35,[uV 0,eS]⟩,⟨I,35,nc 0⟩,⟨z,35,nc a⟩] [];exact lL e ac (aK (lL e ac (ao 81 e (co zm zn (l++[u]) ((wds a).length+1) ((a+0)) (by first|rfl|assumption|(simp;done)|(simp;omega)|omega) (Dg.append Q (Dg.one oM)) (by show ah _ (l++[u])=_;rw[dj];show _+_*(u+_*0)=_;rw[Ah,yt];exact B) sM sM _ _ e.g e.f.1) (fun _ _ e=>lP 0 0 (nc (a+0)) e (fun _ e=>ae e [(0,0,2)] (nv (a+0)) rfl)))))
 have zd:=oT U;refine lB 50 U (af (bY (cK (cQ (kZ (aa e aF (aK (lL e ac (af (aa e [.c,.c,.v (iV 0)] ?_))))))))));have ⟨zg,bd⟩:=dF (p:=(i:Int)<(0:Int)) oM;refine lB 55 zg (aj (cK (kQ (lL e m9 (lX 65 (sB j) ((wds a).length) ((wds a).length) 1 (i:Nat) i rfl ?_)))));refine lQ 66 0 l ag 1 0 i (mV ((l).getD i 0)) e oM (lL e aF ?_);obtain ⟨y,zc,bz,bq,bn,K⟩:=dv ((l).getD i 0) 0 u wM wM oM;refine lV 69 (.tuple #[mV y,mV zc]) ?_ (hr:=dd kR (K _));refine lL e [.c,.v (mV y),.v (mV zc)] (lX 72 (sB j) ((wds a).length) ((wds a).length) 1 (i:Nat) i rfl ?_);refine lW 0 l ag 1 i y e oM (fun _ e=>?_);have zi:((l).set i y).length=(wds a).length:=by rw[Gq];exact V
 replace e:=e.to [⟨j,33,((l).set i y).flatMap ag⟩,⟨C,35,[uV 0,eS]⟩,⟨I,35,nc 0⟩,⟨z,35,nc a⟩] [];refine lL e ac (lN (kQ (bA 73 ((i:Nat)+1) (i+1) ?_)));refine lL e ac (lD ?_);intro a_ ka;refine ⟨_,_,?_,⟨i+1,(l).set i y,zc,zk,rfl,rfl,e.to _ _,oM,zi,(Q.set _ oM),oM,(fi oM inv (by first|omega|(have hy0:=bP (l:=([]:List Nat)) (k:=i) (by first|omega|(simp;done));omega)))⟩,ka.to _ kR⟩
 omega
theorem Dr (a b:Nat)(d:(wds a).length<=1000000000)(c:(wds b).length<=1000000000)(w:World)(h:Hp)(g:G w h):CV 79 #[nv a,nv b] w h (nv (a+b)):=by
 rcases ep a 18446744073709551616 with h1|h1
 ·rcases ep b 18446744073709551616 with h2|h2
  ·exact DQ a b d c h1 h2 w h g
  ·rcases yU a with h3|h3
   ·subst h3;exact CA b c h2 w h g
   ·exact xQ a b d c h3 h2 (by have:=bU h2;have:=(di (n:=a)).2 h1;omega) w h g
 ·rcases yU b with h3|h3
  ·subst h3;exact Ba a d h1 w h g
  ·rcases ep (wds a).length (wds b).length with h4|h4
   ·exact xQ a b d c oM (by have:=bU h1;rcases ep b 18446744073709551616 with h5|h5;(have:=(di (n:=b)).2 h5;omega);exact h5) h4 w h g
   ·exact Dn a b d c h1 h3 h4 w h g
theorem me {l:List Nat}{a b c:Nat}(f:Wd l)(inv:ah 18446744073709551616 l+b=a+18446744073709551616^l.length*c)(e:b<=a)(d:c<=1):ax l=a-b:=by
 have h1:=bJ f
 have:c=0:=by
  rcases yU c with h|h
  ·exact h
  ·have:c=1:=by omega
   subst this;rw[F8] at inv
   omega
 subst this;rw[Ah,yt] at inv
 show ah _ l=_
 omega
theorem xG {a b q r:Nat}(h:a=b*q+r)(hr:r<b):q=a/b/\r=a%b:=by
 subst h;rw[Nat.mul_add_div oM,z1 hr,Nat.mul_add_mod,yL hr];simp
theorem eN (n:Nat)(d:(wds n).length<=1000000000)(w:World)(h:Hp)(g:G w h):CR 78 #[nv n] w h (fun v h1=>∃ A c,v=.slice A (wds n).length c/\(wds n).length<=c/\SlO 1 ag 0 h1 A (wds n)):=by
 rcases yU n with h0|h0
 ·subst h0
  refine (jd w h g).mono ?_;rintro _ w' ⟨_,a,rfl,u,rfl⟩;exact ⟨_,a,rfl,u,none,0,rfl,nR _,SlO.nil⟩
 ·refine (ej n h0 d w h g).mono ?_
  rintro _ w' ⟨_,a,rfl,u,b,rfl,_,_,e⟩;exact ⟨_,a,rfl,u,_,_,rfl,nR _,e⟩
theorem AD (a b:Nat)(e:a<b)(f:(wds a).length<=1000000000)(d:(wds b).length<=1000000000)(w:World)(h:Hp)(g:G w h):CV 80 #[nv a,nv b] w h (.tuple #[nv 0,.bool false]):=by
 have c:=sS g;have l:=cW e;refine go Tryz.func80 [(0,nv a),(1,nv b)] rfl (aD (lA 2 35 (nc a) c (fun u w2 x c=>lA 3 35 (nc b) c (fun y F D c=>lA 4 35 ([uV 0,eS]) c (fun z B C c=>lL c ac (af (aa c [.o (nv a) 2 0 2,.o (nv b) 1 0 2] (ao 13 c (ki a b f d _ _ c.g) (fun _ _ c=>?_)))))))));have ⟨j,i⟩:=dT (p:=(bG a b:Int)<(0:Int)) oM;exact lB 14 j (ar (aa c [.v (.agg #[uV 0,eS])] (lP 0 0 ([uV 0,eS]) c (fun _ c=>lL c ac (ae c [(0,0,2)] (.tuple #[.agg #[uV 0,eS],qF]) rfl)))))
theorem DE (a b:Nat)(i:(wds a).length<=1000000000)(e:(wds b).length<=1000000000)(f:b<=a)(d:a<18446744073709551616)(w:World)(h:Hp)(g:G w h):CV 80 #[nv a,nv b] w h (.tuple #[nv (a-b),.bool true]):=by
 have c:=sS g;have y:=eU f;refine go Tryz.func80 [(0,nv a),(1,nv b)] rfl (aD (lA 2 35 (nc a) c (fun l w2 z c=>lA 3 35 (nc b) c (fun u H F c=>lA 4 35 ([uV 0,eS]) c (fun B C D c=>lL c ac (af (aa c [.o (nv a) 2 0 2,.o (nv b) 1 0 2] (ao 13 c (ki a b i e _ _ c.g) (fun _ _ c=>?_)))))))));have ⟨x,j⟩:=dF (p:=(bG a b:Int)<(0:Int)) oM;refine lB 14 x (aj (cK (cQ (aa c [.v (qP l 1),.o (.string (hi a)) 2 1 1] (lV 18 qT ?_ (hr:=rb kR (ip (dB d))))))));refine ar (aa c [.v (pB l),.o (mV (a%18446744073709551616)) 2 0 1,.v (pB u),.o (mV (b%18446744073709551616)) 1 0 1] (lV 23 (mV ((a%18446744073709551616)-(b%18446744073709551616))) ?_ (hr:=rU ((((a%18446744073709551616:Nat):Int)-((b%18446744073709551616:Nat):Int))) kR (ff (a%18446744073709551616) (b%18446744073709551616) oM oM))));exact lL c [.v (.agg #[mV ((a%18446744073709551616)-(b%18446744073709551616)),eS])] (lP 0 0 ([mV ((a%18446744073709551616)-(b%18446744073709551616)),eS]) c (fun _ c=>lL c ac (ae c [(0,0,2)] (.tuple #[.agg #[mV ((a%18446744073709551616)-(b%18446744073709551616)),eS],qT]) (by rw[yL d,yL (show b<18446744073709551616 by omega),gJ oM]))))
theorem EB (a b:Nat)(hla:(wds a).length<=1000000000)(hlb:(wds b).length<=1000000000)(M:b<=a)(has:18446744073709551616<=a)(hb0:0<b)(w:World)(h:Hp)(g:G w h):CV 80 #[nv a,nv b] w h (.tuple #[nv (a-b),.bool true]):=by
 have e:=sS g;have hcl:=eU M;have hlm:=bV M;refine go Tryz.func80 [(0,nv a),(1,nv b)] rfl (aD (lA 2 35 (nc a) e (fun B w2 h3 e=>lA 3 35 (nc b) e (fun F w5 h6 e=>lA 4 35 ([uV 0,eS]) e (fun C w8 h9 e=>lL e ac (af (aa e [.o (nv a) 2 0 2,.o (nv b) 1 0 2] (ao 13 e (ki a b hla hlb _ _ e.g) (fun zl _ e=>?_)))))))));have ⟨zi,bd⟩:=dF (p:=(bG a b:Int)<(0:Int)) oM;refine lB 14 zi (aj (cK (cQ (aa e [.v (qP B 1),.o (.string (hi a)) 2 1 1] (lV 18 qF ?_ (hr:=rb kR (gn (dS has))))))));refine aj (cK (cQ ?_));obtain ⟨I,hK_⟩:∃ I,I=zl.heap.size:=⟨_,rfl⟩;have bb:C<I:=by rw[hK_];exact dR e 0
 have D:F<I:=by rw[hK_];exact dR e 1
 have H:B<I:=by rw[hK_];exact dR e 2
 refine vk ⟨[],some (I,[])⟩ 0 mixed ?_;have bl:=e.g.size;replace e:=e.drew;have y:=GE hK_;refine zO 0 25 [(2,0,2)] (nv a) rfl y e (fun p hp=>by obtain rfl:=ul.1 hp;exact H) (zO 2 27 [(1,0,2)] (nv b) rfl y e (fun p hp=>by obtain rfl:=ul.1 hp;exact D) (oY 1 26 (ej a oM oM _ _ e.g) rfl y ?_));rintro _ _ _ u15 y ⟨j,rfl,U,X,b2⟩;obtain ⟨_,e,-,-⟩:=e.take u15 U X;replace e:=e.to [⟨j,33,(wds a).flatMap ag⟩,⟨C,35,[uV 0,eS]⟩,⟨F,35,nc b⟩,⟨B,35,nc a⟩] [];refine oY 3 28 (ej b oM oM _ _ e.g) rfl y ?_;rintro _ _ _ u19 y ⟨u,rfl,S,K,bk⟩;obtain ⟨zm,e,-,-⟩:=e.take u19 S K;replace e:=e.to [⟨u,33,(wds b).flatMap ag⟩,⟨j,33,(wds a).flatMap ag⟩,⟨C,35,[uV 0,eS]⟩,⟨F,35,nc b⟩,⟨B,35,nc a⟩] [];refine zV 4 6 (qS (sB j) ((wds a).length) ((wds a).length)) (zV 5 7 (qS (sB u) ((wds b).length) ((wds b).length)) (qQ (lL e ac (af (aa e [.c,.v (nV ((wds a).length)),.c] (ba ?_))))));refine bS _ (CG.loop (fun μ_ Γ w_=>∃ (i:Nat)(l:List Nat)(J:Nat)(h_:Hp),μ_=(wds a).length-i/\Γ=[(4,pB C),(5,qF),(6,qS (sB j) ((wds a).length) ((wds a).length)),(7,qS (sB u) ((wds b).length) ((wds b).length)),(30,nV ((wds a).length)),(31,nV i),(8,mV J)]/\SS w h w_ h_ [⟨u,33,(wds b).flatMap ag⟩,⟨j,33,(l).flatMap ag⟩,⟨C,35,[uV 0,eS]⟩,⟨F,35,nc b⟩,⟨B,35,nc a⟩] [] []/\i<=(wds a).length/\l.length=(wds a).length/\Wd l/\J<=1/\ah 18446744073709551616 l+ah 18446744073709551616 ((wds b:List Nat).take i)=a+18446744073709551616^i*J) _ ⟨0,wds a,0,zm,rfl,rfl,e.to _ _,GA _,rfl,Wd.wds _,oM,(by have hx_:ah 18446744073709551616 (wds a)=a:=aI _;rw[hx_];simp[ah])⟩ ?_);rintro _ _ _ ⟨i,l,J,zg,bz,rfl,e,hi,V,O,hbo,inv⟩;have hlk:=O.get i;have hyk:=(Wd.wds b).get i;refine aD ?_;cases Z:(decide ((i:Int)<(((wds a).length:Nat):Int)))
 .
  have ze:=oF Z;refine lB 32 Z (af (cG (CG.exit ?_)))
  show CG _ _ _ _ _ _ _ _
  refine aD ?_;rw[Ft (show (wds b).length<=i by first|omega|(simp;done)|(simp;omega)),show i=l.length by omega] at inv
  have hE:ax l=a-b:=me O (by have hb_:ah 18446744073709551616 (wds b)=b:=aI b;rw[<-hb_];exact inv) oM hbo;obtain ⟨_,e,W,bq,b3⟩:=e.pub 1;replace e:=(e.to [⟨u,33,(wds b).flatMap ag⟩,⟨C,35,[uV 0,eS]⟩,⟨F,35,nc b⟩,⟨B,35,nc a⟩] []).aS (SlO.of_flat (sz:=1) (f:=ag) (d:=0) (b:=j) (o:=0) (l:=l) (fun _=>rfl) W);exact lL e ac (ao 57 e (co (sB j) ((wds a).length) (l) ((wds a).length) ((a-b)) (by first|rfl|assumption|(simp;done)|(simp;omega)|omega) (O) (hE) sM sM _ _ e.g e.f.1) (fun _ _ e=>lP 1 0 (nc (a-b)) e (fun _ e=>lL e ac (ae e [(1,0,2)] (.tuple #[nv (a-b),qT]) rfl))))
 have ze:=oT Z;refine lB 32 Z (af (bY (cK (cQ (kZ (aa e aF (aK (lL e ac (af (aa e [.c,.c,.v (nV ((wds b).length))] ?_))))))))));cases Y:(decide ((i:Int)<(((wds b).length:Nat):Int)))
 .
  have zf:=oF Y;refine lB 37 Y (aj (cK (kQ (lL e m9 (lX 47 (sB j) ((wds a).length) ((wds a).length) 1 (i:Nat) i rfl ?_)))));refine lQ 48 1 l ag 1 0 i (mV ((l).getD i 0)) e oM (lL e aF ?_);obtain ⟨z,zc,bf,bt,bn,L⟩:=gR ((l).getD i 0) 0 J wM wM oM;refine lV 51 (.tuple #[mV z,mV zc]) ?_ (hr:=dd kR (L _));refine lL e [.c,.v (mV z),.v (mV zc)] (lX 54 (sB j) ((wds a).length) ((wds a).length) 1 (i:Nat) i rfl ?_);refine lW 1 l ag 1 i z e oM (fun _ e=>?_);have zj:((l).set i z).length=(wds a).length:=by rw[Gq];exact V
  replace e:=e.to [⟨u,33,(wds b).flatMap ag⟩,⟨j,33,((l).set i z).flatMap ag⟩,⟨C,35,[uV 0,eS]⟩,⟨F,35,nc b⟩,⟨B,35,nc a⟩] [];refine lL e ac (lN (kQ (bA 55 ((i:Nat)+1) (i+1) ?_)));refine lL e ac (lD ?_);intro a_ ka;refine ⟨_,_,?_,⟨i+1,(l).set i z,zc,zg,rfl,rfl,e.to _ _,oM,zj,(O.set _ oM),oM,(fK oM inv (by first|omega|(have hy0:=bP (l:=(wds b:List Nat)) (k:=i) (by first|omega|(simp;done));omega)))⟩,ka.to _ kR⟩
  omega
 have zf:=oT Y;refine lB 37 Y (ar (kQ (lL e aF (lX 40 (sB u) ((wds b).length) ((wds b).length) 1 (i:Nat) i rfl ?_))));refine lQ 41 0 (wds b) ag 1 0 i (mV ((wds b).getD i 0)) e oM (lL e ac (lN (kQ (lL e m9 (lX 47 (sB j) ((wds a).length) ((wds a).length) 1 (i:Nat) i rfl ?_)))));refine lQ 48 1 l ag 1 0 i (mV ((l).getD i 0)) e oM (lL e aF ?_);obtain ⟨x,zd,bx,bm,b0,Q⟩:=gR ((l).getD i 0) ((wds b).getD i 0) J wM wM oM;refine lV 51 (.tuple #[mV x,mV zd]) ?_ (hr:=dd kR (Q _));refine lL e [.c,.v (mV x),.v (mV zd)] (lX 54 (sB j) ((wds a).length) ((wds a).length) 1 (i:Nat) i rfl ?_);refine lW 1 l ag 1 i x e oM (fun _ e=>?_);have zk:((l).set i x).length=(wds a).length:=by rw[Gq];exact V
 replace e:=e.to [⟨u,33,(wds b).flatMap ag⟩,⟨j,33,((l).set i x).flatMap ag⟩,⟨C,35,[uV 0,eS]⟩,⟨F,35,nc b⟩,⟨B,35,nc a⟩] [];refine lL e ac (lN (kQ (bA 55 ((i:Nat)+1) (i+1) ?_)));refine lL e ac (lD ?_);intro a_ ka;refine ⟨_,_,?_,⟨i+1,(l).set i x,zd,zg,rfl,rfl,e.to _ _,oM,zk,(O.set _ oM),oM,(fK oM inv (by first|omega|(have hy0:=bP (l:=(wds b:List Nat)) (k:=i) (by first|omega|(simp;done));omega)))⟩,ka.to _ kR⟩
 omega
theorem EA (a:Nat)(Z:(wds a).length<=1000000000)(V:18446744073709551616<=a)(w:World)(h:Hp)(g:G w h):CV 80 #[nv a,nv 0] w h (.tuple #[nv a,.bool true]):=by
 have e:=sS g;have hcl:=eU (show 0<=a by omega);refine go Tryz.func80 [(0,nv a),(1,nv 0)] rfl (aD (lA 2 35 (nc a) e (fun B w2 h3 e=>lA 3 35 (nc 0) e (fun I w5 h6 e=>lA 4 35 ([uV 0,eS]) e (fun D w8 h9 e=>lL e ac (af (aa e [.o (nv a) 2 0 2,.o (nv 0) 1 0 2] (ao 13 e (ki a 0 Z (by simp[jt]) _ _ e.g) (fun zg _ e=>?_)))))))));have ⟨zd,bb⟩:=dF (p:=(bG a 0:Int)<(0:Int)) oM;refine lB 14 zd (aj (cK (cQ (aa e [.v (qP B 1),.o (.string (hi a)) 2 1 1] (lV 18 qF ?_ (hr:=rb kR (gn (dS V))))))));refine aj (cK (cQ ?_));obtain ⟨C,hK_⟩:∃ C,C=zg.heap.size:=⟨_,rfl⟩;have X:D<C:=by rw[hK_];exact dR e 0
 have y:I<C:=by rw[hK_];exact dR e 1
 have z:B<C:=by rw[hK_];exact dR e 2
 refine vk ⟨[],some (C,[])⟩ 0 mixed ?_;have bf:=e.g.size;replace e:=e.drew;have x:=GE hK_;refine zO 0 25 [(2,0,2)] (nv a) rfl x e (fun p W=>by obtain rfl:=ul.1 W;exact z) (zO 2 27 [(1,0,2)] (nv 0) rfl x e (fun p W=>by obtain rfl:=ul.1 W;exact y) (oY 1 26 (ej a oM oM _ _ e.g) rfl x ?_));rintro _ _ _ S x ⟨j,rfl,J,K,bl⟩;obtain ⟨_,e,-,-⟩:=e.take S J K;replace e:=e.to [⟨j,33,(wds a).flatMap ag⟩,⟨D,35,[uV 0,eS]⟩,⟨I,35,nc 0⟩,⟨B,35,nc a⟩] [];refine oY 3 28 (jd _ _ e.g) rfl x ?_;rintro _ _ zi u19 x rfl;replace e:=e.step u19;refine zV 4 6 (qS (sB j) ((wds a).length) ((wds a).length)) (zV 5 7 (sZ) (qQ (lL e ac (af (aa e [.c,.v (nV ((wds a).length)),.c] (ba ?_))))));refine bS _ (CG.loop (fun μ_ Γ w_=>∃ (i:Nat)(l:List Nat)(H:Nat)(h_:Hp),μ_=(wds a).length-i/\Γ=[(4,pB D),(5,qF),(6,qS (sB j) ((wds a).length) ((wds a).length)),(7,sZ),(30,nV ((wds a).length)),(31,nV i),(8,mV H)]/\SS w h w_ h_ [⟨j,33,(l).flatMap ag⟩,⟨D,35,[uV 0,eS]⟩,⟨I,35,nc 0⟩,⟨B,35,nc a⟩] [] []/\i<=(wds a).length/\l.length=(wds a).length/\Wd l/\H<=1/\ah 18446744073709551616 l+ah 18446744073709551616 (([]:List Nat).take i)=a+18446744073709551616^i*H) _ ⟨0,wds a,0,zi,rfl,rfl,e.to _ _,GA _,rfl,Wd.wds _,oM,(by have Q:ah 18446744073709551616 (wds a)=a:=aI _;rw[Q];simp[ah])⟩ ?_);rintro _ _ _ ⟨i,l,H,zj,bt,rfl,e,hi,hll,M,Y,inv⟩;have hlk:=M.get i;have hyk:=Wd.get (l:=[]) Dg.nil i;refine aD ?_;cases O:(decide ((i:Int)<(((wds a).length:Nat):Int)))
 .
  have zc:=oF O;refine lB 32 O (af (cG (CG.exit ?_)))
  show CG _ _ _ _ _ _ _ _
  refine aD ?_;rw[List.take_nil,show i=l.length by omega] at inv
  have hE:ax l=a:=me (b:=0) M inv oM Y;obtain ⟨_,e,F,bm,bx⟩:=e.pub 0;replace e:=(e.to [⟨D,35,[uV 0,eS]⟩,⟨I,35,nc 0⟩,⟨B,35,nc a⟩] []).aS (SlO.of_flat (sz:=1) (f:=ag) (d:=0) (b:=j) (o:=0) (l:=l) (fun _=>rfl) F);exact lL e ac (ao 57 e (co (sB j) ((wds a).length) (l) ((wds a).length) (a) (by first|rfl|assumption|(simp;done)|(simp;omega)|omega) (M) (hE) sM sM _ _ e.g e.f.1) (fun _ _ e=>lP 0 0 (nc a) e (fun _ e=>lL e ac (ae e [(0,0,2)] (.tuple #[nv a,qT]) rfl))))
 have zc:=oT O;refine lB 32 O (af (bY (cK (cQ (kZ (aa e aF (aK (lL e ac (af (aa e [.c,.c,.v (iV 0)] ?_))))))))));have ⟨ze,bd⟩:=dF (p:=(i:Int)<(0:Int)) oM;refine lB 37 ze (aj (cK (kQ (lL e m9 (lX 47 (sB j) ((wds a).length) ((wds a).length) 1 (i:Nat) i rfl ?_)))));refine lQ 48 0 l ag 1 0 i (mV ((l).getD i 0)) e oM (lL e aF ?_);obtain ⟨u,U,bq,bn,bk,L⟩:=gR ((l).getD i 0) 0 H wM wM oM;refine lV 51 (.tuple #[mV u,mV U]) ?_ (hr:=dd kR (L _));refine lL e [.c,.v (mV u),.v (mV U)] (lX 54 (sB j) ((wds a).length) ((wds a).length) 1 (i:Nat) i rfl ?_);refine lW 0 l ag 1 i u e oM (fun _ e=>?_);have zf:((l).set i u).length=(wds a).length:=by rw[Gq];exact hll
 replace e:=e.to [⟨j,33,((l).set i u).flatMap ag⟩,⟨D,35,[uV 0,eS]⟩,⟨I,35,nc 0⟩,⟨B,35,nc a⟩] [];refine lL e ac (lN (kQ (bA 55 ((i:Nat)+1) (i+1) ?_)));refine lL e ac (lD ?_);intro a_ ka;refine ⟨_,_,?_,⟨i+1,(l).set i u,U,zj,rfl,rfl,e.to _ _,oM,zf,(M.set _ oM),oM,(fK oM inv (by first|omega|(have hy0:=bP (l:=([]:List Nat)) (k:=i) (by first|omega|(simp;done));omega)))⟩,ka.to _ kR⟩
 omega
theorem xu (a b:Nat)(e:b<=a)(c:(wds a).length<=1000000000)(d:(wds b).length<=1000000000)(w:World)(h:Hp)(g:G w h):CV 80 #[nv a,nv b] w h (.tuple #[nv (a-b),.bool true]):=by
 rcases ep a 18446744073709551616 with h1|h1
 ·exact DE a b c d e h1 w h g
 ·rcases yU b with h3|h3
  ·subst h3;exact EA a c h1 w h g
  ·exact EB a b c d e h1 h3 w h g
theorem DA (a b:Nat)(M:(wds a).length<=1000000000)(K:(wds b).length<=1000000000)(u:a<18446744073709551616)(x:b<18446744073709551616)(w:World)(h:Hp)(g:G w h):CV 37 #[nv a,nv b] w h (nv (a*b)):=by
 have e:=sS g;have B:=yL u;have C:=yL x;refine go Tryz.func37 [(0,nv a),(1,nv b)] rfl (aD (lA 2 35 (nc a) e (fun F w2 Q e=>lA 3 35 (nc b) e (fun H X W e=>lA 4 35 ([uV 0,eS]) e (fun S U V e=>af (aa e [.v (qP F 1),.o (.string (hi a)) 2 1 1] (lV 9 qT ?_ (hr:=rb kR (ip (dB u))))))))));refine lL e [.c,.v (qP H 1),.o (.string (hi b)) 1 1 1] (lV 13 qT ?_ (hr:=rb kR (ip (dB x))));refine lL e [.v qT] (ar (aa e [.v (pB F),.o (mV (a%18446744073709551616)) 2 0 1,.v (pB H),.o (mV (b%18446744073709551616)) 1 0 1] (lC 20 e (l9 (a%18446744073709551616) (b%18446744073709551616) wM wM _ _ e.g) ?_)));rintro _ _ _ e ⟨i,j,rfl,p,J,D,I⟩;have y:=ij (a:=(a%18446744073709551616)) (b:=(b%18446744073709551616)) wM wM;refine lL e [.c,.v (mV i),.v (mV j),.c,.c] (af (aD ?_));rw[B,C] at p
 refine lL e ac ?_;cases z:((i:Int) == (0:Int))
 .
  have L:=aq z;refine lB 24 z (aj (cK (aa e aF (lR 29 33 2 ([mV j,mV i]) e (fun O _ _ e=>?_)))));replace e:=e.aS (SlO.of_flat (sz:=1) (f:=ag) (d:=0) (l:=[j,i]) (fun _=>rfl) e.f.1);exact ao 30 e (co (sB O) 2 ([j,i]) 2 ((a*b)) (by first|rfl|assumption|(simp;done)|(simp;omega)|omega) (Dg.cons oM (Dg.one oM)) (by show j+18446744073709551616*(i+18446744073709551616*0)=a*b;omega) sM sM _ _ e.g e.f.1) (fun _ _ e=>lP 0 0 (nc (a*b)) e (fun _ e=>ae e [(0,0,2)] (nv (a*b)) rfl))
 have L:=eq_of_beq z;exact lB 24 z (ar (aa e [.c,.v (.agg #[mV j,eS])] (lP 0 0 ([mV j,eS]) e (fun _ e=>ae e [(0,0,2)] (.agg #[mV j,eS]) (by rw[show j=a*b by omega];exact gJ oM)))))
theorem Ea (a b:Nat)(J:(wds a).length<=1000000000)(F:(wds b).length<=1000000000)(e:18446744073709551616<=a)(w:World)(h:Hp)(g:G w h):CV 37 #[nv a,nv b] w h (nv (a*b)):=by
 have c:=sS g;refine go Tryz.func37 [(0,nv a),(1,nv b)] rfl (aD (lA 2 35 (nc a) c (fun H w2 O c=>lA 3 35 (nc b) c (fun Q X W c=>lA 4 35 ([uV 0,eS]) c (fun S U V c=>af (aa c [.v (qP H 1),.o (.string (hi a)) 2 1 1] (lV 9 qF ?_ (hr:=rb kR (gn (dS e))))))))));refine lL c ac (lG 11 ?_);refine lG 12 (lG 13 (lL c [.v qF] (aj (cK (cQ (cR 6 [] mixed c am ?_))))));refine eO 0 31 [(2,0,2)] (nv a) c (eO 2 33 [(1,0,2)] (nv b) c (eC 1 32 c (fun _ _ c=>eN a oM _ _ c.g) ?_));rintro _ _ _ _ _ c ⟨y,x,rfl,C,u⟩;replace c:=c.aS u;refine eC 3 34 c (fun _ _ c=>eN b oM _ _ c.g) ?_;rintro _ _ _ _ _ c ⟨d,l,rfl,z,j⟩;replace c:=c.aS j;refine eC 4 35 c (fun _ _ c=>Aa y x (wds a) d l (wds b) (Wd.wds a) (Wd.wds b) oM oM _ _ c.g c.f.2.1 c.f.1) ?_;rintro _ _ _ _ _ c ⟨L,M,B,rfl,I,K,i,p,D⟩;replace c:=c.aS D;exact ai 5 36 c (fun _ _ c=>co L M (B) B.length ((a*b)) (by first|rfl|assumption|(simp;done)|(simp;omega)|omega) (i) (p.trans (by rw[aI,aI])) sM sM _ _ c.g c.f.1) (fun _ _ c=>bW c (fun _ _ c=>tP 6 0 0 (nc (a*b)) c (fun _ c=>tN (kX (c.ret [(0,0,2)] (nv (a*b)) rfl)))))
theorem Da (a b:Nat)(M:(wds a).length<=1000000000)(I:(wds b).length<=1000000000)(i:a<18446744073709551616)(j:18446744073709551616<=b)(w:World)(h:Hp)(g:G w h):CV 37 #[nv a,nv b] w h (nv (a*b)):=by
 have d:=sS g;refine go Tryz.func37 [(0,nv a),(1,nv b)] rfl (aD (lA 2 35 (nc a) d (fun J w2 U d=>lA 3 35 (nc b) d (fun K Z Y d=>lA 4 35 ([uV 0,eS]) d (fun V W X d=>af (aa d [.v (qP J 1),.o (.string (hi a)) 2 1 1] (lV 9 qT ?_ (hr:=rb kR (ip (dB i))))))))));refine lL d [.c,.v (qP K 1),.o (.string (hi b)) 1 1 1] (lV 13 qF ?_ (hr:=rb kR (gn (dS j))));refine lL d [.v qF] (aj (cK (cQ (cR 6 [] mixed d am ?_))));refine eO 0 31 [(2,0,2)] (nv a) d (eO 2 33 [(1,0,2)] (nv b) d (eC 1 32 d (fun _ _ d=>eN a oM _ _ d.g) ?_));rintro _ _ _ _ _ d ⟨B,z,rfl,F,y⟩;replace d:=d.aS y;refine eC 3 34 d (fun _ _ d=>eN b oM _ _ d.g) ?_;rintro _ _ _ _ _ d ⟨e,u,rfl,C,p⟩;replace d:=d.aS p;refine eC 4 35 d (fun _ _ d=>Aa B z (wds a) e u (wds b) (Wd.wds a) (Wd.wds b) oM oM _ _ d.g d.f.2.1 d.f.1) ?_;rintro _ _ _ _ _ d ⟨Q,S,D,rfl,L,O,l,x,H⟩;replace d:=d.aS H;exact ai 5 36 d (fun _ _ d=>co Q S (D) D.length ((a*b)) (by first|rfl|assumption|(simp;done)|(simp;omega)|omega) (l) (x.trans (by rw[aI,aI])) sM sM _ _ d.g d.f.1) (fun _ _ d=>bW d (fun _ _ d=>tP 6 0 0 (nc (a*b)) d (fun _ d=>tN (kX (d.ret [(0,0,2)] (nv (a*b)) rfl)))))
theorem mG (a b:Nat)(d:(wds a).length<=1000000000)(c:(wds b).length<=1000000000)(w:World)(h:Hp)(g:G w h):CV 37 #[nv a,nv b] w h (nv (a*b)):=by
 rcases ep a 18446744073709551616 with h1|h1
 ·rcases ep b 18446744073709551616 with h2|h2
  ·exact DA a b d c h1 h2 w h g
  ·exact Da a b d c h1 h2 w h g
 ·exact Ea a b d c h1 w h g
theorem xz (a b:Nat)(J:0<b)(S:(wds a).length<=1000000000)(C:(wds b).length<=1000000000)(z:a<18446744073709551616)(l:b<18446744073709551616)(w:World)(h:Hp)(g:G w h):CV 69 #[nv a,nv b] w h (.tuple #[nv (a/b),nv (a%b),.bool true]):=by
 have d:=sS g;have M:=(bR J).2.2;have L:=yL l;refine go Tryz.func69 [(0,nv a),(1,nv b)] rfl (aD (lA 2 35 (nc a) d (fun D w2 U d=>lA 3 35 (nc b) d (fun I Y X d=>lA 4 35 ([uV 0,eS]) d (fun Q V W d=>lA 5 35 ([uV 0,eS]) d (fun O _ _ d=>lL d ac (af (aa d [.o (nv b) 2 0 2] (ao 12 d (ef b C _ _ d.g) (fun _ _ d=>?_))))))))));have K:(((nb b:Nat):Int) == (0:Int))=false:=e9 oM;have F:=aq K;refine lB 13 K (aj (cK (cQ (aa d [.v (qP D 1),.o (.string (hi a)) 3 1 1] (lV 18 qT ?_ (hr:=rb kR (ip (dB z))))))));refine lL d [.c,.v (qP I 1),.o (.string (hi b)) 2 1 1] (lV 22 qT ?_ (hr:=rb kR (ip (dB l))));refine lL d [.v qT] (ar (cQ ?_));have B:=d;refine wQ 12 [] [Q,O] mixed d am (eV 0 24 (pB D) (eO 1 25 [(3,0,1)] (mV (a%18446744073709551616)) d (eV 2 26 (pB I) (eO 3 27 [(2,0,1)] (mV (b%18446744073709551616)) d (eV 4 28 (mV ((a%18446744073709551616)/(b%18446744073709551616))) ?_ (hv:=fun _=>aY (db (t:=33) (u:=33) (x:=.tmp 25) (y:=.tmp 27) (k:=.u64) (a:=((a%18446744073709551616:Nat):Int)) (b:=((b%18446744073709551616:Nat):Int)) kR kR kR oM _) (j8 (a%18446744073709551616) (b%18446744073709551616) oM)))))));refine eV 5 29 (.agg #[mV ((a%18446744073709551616)/(b%18446744073709551616)),eS]) (eV 6 30 (pB D) (rF 7 31 [(3,0,1)] (mV (a%18446744073709551616)) B d ?_ (hM:=fun p H=>by obtain rfl:=ul.1 H;exact fun f=>by rcases g3.1 f with e|f;exact eW d.st (i:=3) (j:=1) kR kR kR e;rcases g3.1 f with e|f;exact eW d.st (i:=3) (j:=0) kR kR kR e;cases f)));refine eV 8 32 (pB I) (rF 9 33 [(2,0,1)] (mV (b%18446744073709551616)) B d ?_ (hM:=fun p H=>by obtain rfl:=ul.1 H;exact fun f=>by rcases g3.1 f with e|f;exact eW d.st (i:=2) (j:=1) kR kR kR e;rcases g3.1 f with e|f;exact eW d.st (i:=2) (j:=0) kR kR kR e;cases f));refine eV 10 34 (mV ((a%18446744073709551616)%(b%18446744073709551616))) ?_ (hv:=fun _=>aY (eT (t:=33) (u:=33) (x:=.tmp 31) (y:=.tmp 33) (k:=.u64) (a:=((a%18446744073709551616:Nat):Int)) (b:=((b%18446744073709551616:Nat):Int)) kR kR kR oM _) (cX (a%18446744073709551616) (b%18446744073709551616)));refine eV 11 35 (.agg #[mV ((a%18446744073709551616)%(b%18446744073709551616)),eS]) (bW d (fun _ _ d=>tP 12 1 0 ([mV ((a%18446744073709551616)/(b%18446744073709551616)),eS]) d (fun _ d=>?_) (hz:=eP (GF))));refine tP 13 0 0 ([mV ((a%18446744073709551616)%(b%18446744073709551616)),eS]) d (fun _ d=>?_) (hz:=eP (GG _<|GF));exact tV 14 6 qT (tN (kX (d.ret [(1,0,2),(0,0,2)] (.tuple #[.agg #[mV ((a%18446744073709551616)/(b%18446744073709551616)),eS],.agg #[mV ((a%18446744073709551616)%(b%18446744073709551616)),eS],qT]) (by rw[yL z,yL l,gJ (show a/b<18446744073709551616 by have:=zY a b;omega),gJ (show a%b<18446744073709551616 by have:=yM a J;omega)]))))
theorem DN (a b:Nat)(hb:0<b)(L:(wds a).length<=1000000000)(F:(wds b).length<=1000000000)(has:18446744073709551616<=a)(y:b<18446744073709551616)(w:World)(h:Hp)(g:G w h):CV 69 #[nv a,nv b] w h (.tuple #[nv (a/b),nv (a%b),.bool true]):=by
 have i:=sS g;have bt:=(bR hb).2.2;have bn:=yL y;have hcl:=eU (show b<=a by omega);refine go Tryz.func69 [(0,nv a),(1,nv b)] rfl (aD (lA 2 35 (nc a) i (fun H w2 h3 i=>lA 3 35 (nc b) i (fun D w5 h6 i=>lA 4 35 ([uV 0,eS]) i (fun S w8 h9 i=>lA 5 35 ([uV 0,eS]) i (fun U _ _ i=>lL i ac (af (aa i [.o (nv b) 2 0 2] (ao 12 i (ef b F _ _ i.g) (fun _ _ i=>?_))))))))));have zb:(((nb b:Nat):Int) == (0:Int))=false:=e9 oM;have bb:=aq zb;refine lB 13 zb (aj (cK (cQ (aa i [.v (qP H 1),.o (.string (hi a)) 3 1 1] (lV 18 qF ?_ (hr:=rb kR (gn (dS has))))))));refine lL i ac (lG 20 ?_);refine lG 21 (lG 22 (lL i [.v qF] (aj (cK (cQ (aa i [.o (nv a) 3 0 2,.o (nv b) 2 0 2] (ao 38 i (ki a b L F _ _ i.g) (fun zd _ i=>?_))))))));have ⟨zc,bf⟩:=dF (p:=(bG a b:Int)<(0:Int)) oM;refine lB 39 zc (aj (cK (cQ (aa i [.v (qP D 1),.o (.string (hi b)) 2 1 1] (lV 44 qT ?_ (hr:=rb kR (ip (dB y))))))));refine ar (cQ ?_);obtain ⟨x,hK_⟩:∃ x,x=zd.heap.size:=⟨_,rfl⟩;have V:U<x:=by rw[hK_];exact dR i 0
 have bd:S<x:=by rw[hK_];exact dR i 1
 have B:D<x:=by rw[hK_];exact dR i 2
 have C:H<x:=by rw[hK_];exact dR i 3
 refine vk ⟨[],some (x,[])⟩ 0 mixed ?_;have bk:=i.g.size;replace i:=i.drew;have u:=GE hK_;refine zO 0 46 [(3,0,2)] (nv a) rfl u i (fun p hp=>by obtain rfl:=ul.1 hp;exact C) (zV 2 48 (pB D) (zO 3 49 [(2,0,1)] (mV (b%18446744073709551616)) rfl u i (fun p hp=>by obtain rfl:=ul.1 hp;exact B) (oY 1 47 (ej a oM oM _ _ i.g) rfl u ?_)));rintro _ _ _ u21 u ⟨j,rfl,O,Q,bq⟩;obtain ⟨_,i,-,-⟩:=i.take u21 O Q;replace i:=i.to [⟨j,33,(wds a).flatMap ag⟩,⟨U,35,[uV 0,eS]⟩,⟨S,35,[uV 0,eS]⟩,⟨D,35,nc b⟩,⟨H,35,nc a⟩] [];refine FP 4 50 (Dq j (wds a) (wds a).length (b%18446744073709551616) oM oM (Wd.wds a) L (nR _) _ _ i.g (i.own 0) (i.jk 0)) rfl u oM ?_;rintro _ _ _ u25 u ⟨z,r,rfl,hzl,Y,I,K,Z⟩;replace i:=(i.stepM 0 u25 Z).to [⟨j,33,(z).flatMap ag⟩,⟨U,35,[uV 0,eS]⟩,⟨S,35,[uV 0,eS]⟩,⟨D,35,nc b⟩,⟨H,35,nc a⟩] [];refine zV 5 45 (.tuple #[qS (sB j) (tl z z.length) ((wds a).length),mV r]) (zV 6 51 (qS (sB j) (tl z z.length) ((wds a).length)) (zV 7 52 (mV r) (zV 8 7 (qS (sB j) (tl z z.length) ((wds a).length)) (zV 9 8 (mV r) (qQ ?_)))));have M:=yL y;rw[aI,M] at I
 rw[M] at K
 obtain ⟨W,X⟩:=xG I K;have htz:=gA z z.length;have hQ:ax (z.take (tl z z.length))=a/b:=by have e:=iI 18446744073709551616 z z.length (nR _);rw[yw] at e;exact e.trans W
 obtain ⟨_,i,J,bm,bl⟩:=i.pub 0;replace i:=(i.to [⟨U,35,[uV 0,eS]⟩,⟨S,35,[uV 0,eS]⟩,⟨D,35,nc b⟩,⟨H,35,nc a⟩] []).aS (SlO.of_flat (sz:=1) (f:=ag) (d:=0) (b:=j) (o:=0) (l:=z) (fun _=>rfl) J);exact lL i ac (ao 54 i (co (sB j) ((wds a).length) (z.take (tl z z.length)) (tl z z.length) ((a/b)) (by first|rfl|assumption|(simp;done)|(simp;omega)|omega) (Dg.take Y _) (hQ) sM sM _ _ i.g ((i.f.1).take _)) (fun _ _ i=>lL i [.c,.v (.agg #[mV r,eS])] (lP 1 0 (nc (a/b)) i (fun _ i=>lP 0 0 ([mV r,eS]) i (fun _ i=>lL i ac (ae i [(1,0,2),(0,0,2)] (.tuple #[nv (a/b),.agg #[mV r,eS],qT]) (by rw[X,gJ (by have:=yM a hb;omega)])))))))
theorem DZ (a b:Nat)(V:0<b)(j:(wds a).length<=1000000000)(d:(wds b).length<=1000000000)(e:b<=a)(H:18446744073709551616<=a)(i:18446744073709551616<=b)(w:World)(h:Hp)(g:G w h):CV 69 #[nv a,nv b] w h (.tuple #[nv (a/b),nv (a%b),.bool true]):=by
 have c:=sS g;have Y:=(bR V).2.2;have hcl:=eU e;have hlm:=bV e;have hl2:=bU i;refine go Tryz.func69 [(0,nv a),(1,nv b)] rfl (aD (lA 2 35 (nc a) c (fun b1 w2 h3 c=>lA 3 35 (nc b) c (fun b4 w5 h6 c=>lA 4 35 ([uV 0,eS]) c (fun b7 w8 h9 c=>lA 5 35 ([uV 0,eS]) c (fun b10 _ _ c=>lL c ac (af (aa c [.o (nv b) 2 0 2] (ao 12 c (ef b d _ _ c.g) (fun _ _ c=>?_))))))))));have X:(((nb b:Nat):Int) == (0:Int))=false:=e9 oM;have D:=aq X;refine lB 13 X (aj (cK (cQ (aa c [.v (qP b1 1),.o (.string (hi a)) 3 1 1] (lV 18 qF ?_ (hr:=rb kR (gn (dS H))))))));refine lL c ac (lG 20 ?_);refine lG 21 (lG 22 (lL c [.v qF] (aj (cK (cQ (aa c [.o (nv a) 3 0 2,.o (nv b) 2 0 2] (ao 38 c (ki a b j d _ _ c.g) (fun _ _ c=>?_))))))));have ⟨zb,Q⟩:=dF (p:=(bG a b:Int)<(0:Int)) oM;refine lB 39 zb (aj (cK (cQ (aa c [.v (qP b4 1),.o (.string (hi b)) 2 1 1] (lV 44 qF ?_ (hr:=rb kR (gn (dS i))))))));refine aj (cK (cQ (cR 8 [] mixed c am ?_)));refine eO 0 58 [(3,0,2)] (nv a) c (eO 2 60 [(2,0,2)] (nv b) c (eC 1 59 c (fun _ _ c=>eN a oM _ _ c.g) ?_));rintro _ _ _ _ _ c ⟨U,S,rfl,Z,M⟩;replace c:=c.aS M;refine eC 3 61 c (fun _ _ c=>eN b oM _ _ c.g) ?_;rintro _ _ _ _ _ c ⟨B,K,rfl,W,J⟩;replace c:=c.aS J;refine eC 4 62 c (fun _ _ c=>AX U S (wds a) B K (wds b) (Wd.wds a) (Wd.wds b) j oM oM (jY V) _ _ c.g c.f.2.1 c.f.1) ?_;rintro _ _ _ _ _ c ⟨u,x,q,l,y,r,rfl,hcq,hcr,O,C,z,L,hlq,hlr,I,F⟩;replace c:=c.aP I F;exact eV 5 57 (.tuple #[qS u q.length x,qS l r.length y]) (eV 6 63 (qS u q.length x) (eV 7 64 (qS l r.length y) (bW c (fun _ _ c=>tV 8 9 (qS u q.length x) (tV 9 10 (qS l r.length y) (qQ (lL c ac (ao 66 c (co u x (q) q.length ((a/b)) (by first|rfl|assumption|(simp;done)|(simp;omega)|omega) (O) (z.trans (by rw[aI,aI])) sM sM _ _ c.g c.f.2.1) (fun _ _ c=>lL c ac (ao 68 c (co l y (r) r.length ((a%b)) (by first|rfl|assumption|(simp;done)|(simp;omega)|omega) (C) (L.trans (by rw[aI,aI])) sM sM _ _ c.g c.f.1) (fun _ _ c=>lP 1 0 (nc (a/b)) c (fun _ c=>lP 0 0 (nc (a%b)) c (fun _ c=>lL c ac (ae c [(1,0,2),(0,0,2)] (.tuple #[nv (a/b),nv (a%b),qT]) rfl))))))))))))))
theorem DM (a b:Nat)(J:0<b)(B:(wds a).length<=1000000000)(u:(wds b).length<=1000000000)(f:a<b)(y:a<18446744073709551616)(z:18446744073709551616<=b)(w:World)(h:Hp)(g:G w h):CV 69 #[nv a,nv b] w h (.tuple #[nv (a/b),nv (a%b),.bool true]):=by
 have d:=sS g;have H:=(bR J).2.2;have S:=cW f;refine go Tryz.func69 [(0,nv a),(1,nv b)] rfl (aD (lA 2 35 (nc a) d (fun I w2 U d=>lA 3 35 (nc b) d (fun M Y X d=>lA 4 35 ([uV 0,eS]) d (fun O V W d=>lA 5 35 ([uV 0,eS]) d (fun Q _ _ d=>lL d ac (af (aa d [.o (nv b) 2 0 2] (ao 12 d (ef b u _ _ d.g) (fun _ _ d=>?_))))))))));have F:(((nb b:Nat):Int) == (0:Int))=false:=e9 oM;have x:=aq F;refine lB 13 F (aj (cK (cQ (aa d [.v (qP I 1),.o (.string (hi a)) 3 1 1] (lV 18 qT ?_ (hr:=rb kR (ip (dB y))))))));refine lL d [.c,.v (qP M 1),.o (.string (hi b)) 2 1 1] (lV 22 qF ?_ (hr:=rb kR (gn (dS z))));refine lL d [.v qF] (aj (cK (cQ (aa d [.o (nv a) 3 0 2,.o (nv b) 2 0 2] (ao 38 d (ki a b B u _ _ d.g) (fun _ _ d=>?_))))));have ⟨K,D⟩:=dT (p:=(bG a b:Int)<(0:Int)) oM;refine lB 39 K (ar (cQ ?_));have C:=d;refine wQ 2 [] [O,Q] mixed d am (eV 0 40 (.agg #[uV 0,eS]) (rF 1 41 [(3,0,2)] (nv a) C d ?_ (hM:=fun p L=>by obtain rfl:=ul.1 L;exact fun l=>by rcases g3.1 l with e|l;exact eW d.st (i:=3) (j:=1) kR kR kR e;rcases g3.1 l with e|l;exact eW d.st (i:=3) (j:=0) kR kR kR e;cases l)));refine bW d (fun _ _ d=>tP 2 1 0 ([uV 0,eS]) d (fun _ d=>?_) (hz:=eP (GF)));refine tP 3 0 0 (nc a) d (fun _ d=>?_) (hz:=eP (GG _<|GF));exact tV 4 6 qT (tN (kX (d.ret [(1,0,2),(0,0,2)] (.tuple #[.agg #[uV 0,eS],nv a,qT]) (by have f:a<b:=(by rcases ep a b with h_|h_;exact h_;rcases eU h_ with e|e<;>omega);rw[z1 f,yL f];rfl))))
theorem El (a b:Nat)(H:0<b)(y:(wds a).length<=1000000000)(l:(wds b).length<=1000000000)(d:a<b)(x:18446744073709551616<=a)(w:World)(h:Hp)(g:G w h):CV 69 #[nv a,nv b] w h (.tuple #[nv (a/b),nv (a%b),.bool true]):=by
 have c:=sS g;have D:=(bR H).2.2;have M:=cW d;refine go Tryz.func69 [(0,nv a),(1,nv b)] rfl (aD (lA 2 35 (nc a) c (fun F w2 O c=>lA 3 35 (nc b) c (fun Q W V c=>lA 4 35 ([uV 0,eS]) c (fun K S U c=>lA 5 35 ([uV 0,eS]) c (fun L _ _ c=>lL c ac (af (aa c [.o (nv b) 2 0 2] (ao 12 c (ef b l _ _ c.g) (fun _ _ c=>?_))))))))));have C:(((nb b:Nat):Int) == (0:Int))=false:=e9 oM;have u:=aq C;refine lB 13 C (aj (cK (cQ (aa c [.v (qP F 1),.o (.string (hi a)) 3 1 1] (lV 18 qF ?_ (hr:=rb kR (gn (dS x))))))));refine lL c ac (lG 20 ?_);refine lG 21 (lG 22 (lL c [.v qF] (aj (cK (cQ (aa c [.o (nv a) 3 0 2,.o (nv b) 2 0 2] (ao 38 c (ki a b y l _ _ c.g) (fun _ _ c=>?_))))))));have ⟨I,B⟩:=dT (p:=(bG a b:Int)<(0:Int)) oM;refine lB 39 I (ar (cQ ?_));have z:=c;refine wQ 2 [] [K,L] mixed c am (eV 0 40 (.agg #[uV 0,eS]) (rF 1 41 [(3,0,2)] (nv a) z c ?_ (hM:=fun p J=>by obtain rfl:=ul.1 J;exact fun f=>by rcases g3.1 f with e|f;exact eW c.st (i:=3) (j:=1) kR kR kR e;rcases g3.1 f with e|f;exact eW c.st (i:=3) (j:=0) kR kR kR e;cases f)));refine bW c (fun _ _ c=>tP 2 1 0 ([uV 0,eS]) c (fun _ c=>?_) (hz:=eP (GF)));refine tP 3 0 0 (nc a) c (fun _ c=>?_) (hz:=eP (GG _<|GF));exact tV 4 6 qT (tN (kX (c.ret [(1,0,2),(0,0,2)] (.tuple #[.agg #[uV 0,eS],nv a,qT]) (by have d:a<b:=(by rcases ep a b with h_|h_;exact h_;rcases eU h_ with e|e<;>omega);rw[z1 d,yL d];rfl))))
theorem Eo (a b:Nat)(e:0<b)(d:(wds a).length<=1000000000)(c:(wds b).length<=1000000000)(w:World)(h:Hp)(g:G w h):CV 69 #[nv a,nv b] w h (.tuple #[nv (a/b),nv (a%b),.bool true]):=by
 rcases ep a b with hab|hab
 ·rcases ep a 18446744073709551616 with h1|h1
  ·rcases ep b 18446744073709551616 with h2|h2
   ·exact xz a b e d c h1 h2 w h g
   ·exact DM a b e d c hab h1 h2 w h g
  ·exact El a b e d c hab h1 w h g
 ·rcases ep b 18446744073709551616 with h2|h2
  ·rcases ep a 18446744073709551616 with h1|h1
   ·exact xz a b e d c h1 h2 w h g
   ·exact DN a b e d c h1 h2 w h g
  ·exact DZ a b e d c hab oM h2 w h g
theorem iM {z:Int}{b:Bool}{n:Nat}(a:aw z=b)(c:ab z=n):Value.agg #[.bool b,.int .u64 (lo n),.string (hi n)]=iv z:=by subst a c;rfl
theorem iH {z:Int}{b:Bool}(a:aw z=b):iv z=Value.agg #[.bool b,.int .u64 (lo (ab z)),.string (hi (ab z))]:=(iM a rfl).symm
theorem lU (x y:Int):bT (aw x != aw y) (ab x*ab y)=x*y:=by
 rcases hx:aw x with _|_<;>rcases hy:aw y with _|_
 ·have h1:=bc hx
  have c:=bc hy;obtain ⟨a,rfl⟩:=GH h1;obtain ⟨b,rfl⟩:=GH c
  simp[bT,ab,GI,GJ,GK]
 ·have h1:=bc hx
  have c:=bp hy;obtain ⟨a,rfl⟩:=GH h1;obtain ⟨b,d⟩:=GH (a:=-y) oM;obtain rfl:y = -b:=by omega
  simp[bT,ab,GI,GJ,GK]
 ·have h1:=bp hx
  have c:=bc hy;obtain ⟨b,rfl⟩:=GH c;obtain ⟨a,ha⟩:=GH (a:=-x) oM;obtain rfl:x = -a:=by omega
  simp[bT,ab,GI,GJ,GK]
 ·have h1:=bp hx
  have c:=bp hy;obtain ⟨a,ha⟩:=GH (a:=-x) oM;obtain ⟨b,d⟩:=GH (a:=-y) oM;obtain rfl:x = -a:=by omega
  obtain rfl:y = -b:=by omega
  simp[bT,ab,GI,GJ,GK]
theorem i6 {a b:Nat}:(wds (a+b)).length<=(wds a).length+(wds b).length+1:=by
 refine ew kD ?_;have h1:=ct a;have d:=ct b;have e:18446744073709551616^(wds a).length<=18446744073709551616^((wds a).length+(wds b).length):=Aw kD oM;have c:18446744073709551616^(wds b).length<=18446744073709551616^((wds a).length+(wds b).length):=Aw kD oM;rw[z6]
 omega
theorem nz {a b k:Nat}(ha:(wds a).length<=k)(c:(wds b).length<=k):(wds (a+b)).length<=k+1:=by
 refine ew kD ?_;have h1:=ct a;have e:=ct b;have f:18446744073709551616^(wds a).length<=18446744073709551616^k:=Aw kD ha;have d:18446744073709551616^(wds b).length<=18446744073709551616^k:=Aw kD c;rw[z6]
 omega
theorem cn {a b:Nat}:(wds (a*b)).length<=(wds a).length+(wds b).length:=by
 refine ew kD ?_;rw[A4];have h1:=ct a;have c:=ct b;exact e4 (Nat.mul_lt_mul'' h1 c) (Nat.le_refl _)
theorem au {a b k:Nat}(h:a<=b)(c:(wds b).length<=k):(wds a).length<=k:=ez (bV h) c
theorem uz (a:Nat)(w:World)(h:Hp)(g:G w h):CV 32 #[.bool false,nv a] w h (iv (bT false a)):=by
 have b:=sS g;refine go Tryz.func32 [(0,qF),(1,nv a)] rfl (aD (lA 3 35 (nc a) b (fun d w2 f b=>lA 4 37 ([qF,uV 0,eS]) b (fun i j c b=>af (cR 8 [] mixed b am ?_)))));exact eV 0 5 qF (eV 1 6 qF (eG 2 7 (eG 3 8 (eG 4 9 (eV 5 10 qF (eO 6 11 [(1,0,2)] (nv a) b (eV 7 12 (wX qF a) (bW b (fun l e b=>tP 8 0 0 (wC qF a) b (fun o b=>tN (kX (b.ret [(0,0,3)] (wX qF a) (iM (by rw[iA];rfl) (dP _ _))))))))))))))
theorem Co (c:(wds 0).length<=1000000000)(w:World)(h:Hp)(g:G w h):CV 32 #[.bool true,nv 0] w h (iv (bT true 0)):=by
 have a:=sS g;have b:nb 0=0:=rfl;refine go Tryz.func32 [(0,qT),(1,nv 0)] rfl (aD (lA 3 35 (nc 0) a (fun f w2 j a=>lA 4 37 ([qF,uV 0,eS]) a (fun l o d a=>af (cR 8 [] mixed a am ?_)))));refine eV 0 5 qT (eV 1 6 qT (eO 2 7 [(1,0,2)] (nv 0) a (eO 6 11 [(1,0,2)] (nv 0) a (ai 3 8 a (fun _ _ a=>ef 0 aM _ _ a.g) (fun p i a=>eV 4 9 qF ?_ (hv:=fun _=>rb (e:=decide ((0:Int)<((nb 0:Nat):Int))) kR (decide_eq_false oM)))))));exact eV 5 10 qF (eV 7 12 (wX qF 0) (bW a (fun u _ a=>tP 8 0 0 (wC qF 0) a (fun _ a=>tN (kX (a.ret [(0,0,3)] (wX qF 0) (iM (by rw[iA];rfl) (dP _ _))))))))
theorem BE (a:Nat)(ha:0<a)(d:(wds a).length<=1000000000)(w:World)(h:Hp)(g:G w h):CV 32 #[.bool true,nv a] w h (iv (bT true a)):=by
 have b:=sS g;have c:=(bR ha).2.2;refine go Tryz.func32 [(0,qT),(1,nv a)] rfl (aD (lA 3 35 (nc a) b (fun i w2 l b=>lA 4 37 ([qF,uV 0,eS]) b (fun o p f b=>af (cR 8 [] mixed b am ?_)))));refine eV 0 5 qT (eV 1 6 qT (eO 2 7 [(1,0,2)] (nv a) b (eO 6 11 [(1,0,2)] (nv a) b (ai 3 8 b (fun _ _ b=>ef a aM _ _ b.g) (fun u j b=>eV 4 9 qT ?_ (hv:=fun _=>rb (e:=decide ((0:Int)<((nb a:Nat):Int))) kR (decide_eq_true oM)))))));exact eV 5 10 qT (eV 7 12 (wX qT a) (bW b (fun x _ b=>tP 8 0 0 (wC qT a) b (fun _ b=>tN (kX (b.ret [(0,0,3)] (wX qT a) (iM (by rw[iA];simpa using ha) (dP _ _))))))))
theorem ek (b:Bool)(a:Nat)(c:(wds a).length<=1000000000)(w:World)(h:Hp)(g:G w h):CV 32 #[.bool b,nv a] w h (iv (bT b a)):=by
 cases b
 ·exact uz a w h g
 ·rcases yU a with h0|h0
  ·subst h0;exact Co c w h g
  ·exact BE a h0 c w h g
theorem Fe (z:Int)(h0 : -9223372036854775808<=z)(hz:z<0)(w:World)(h:Hp)(g:G w h):CV 64 #[iV z] w h (iv z):=by
 have a:=sS g;have d:ab z<=9223372036854775808:=by unfold ab;omega
 refine go Tryz.func64 [(0,iV z)] rfl (aD (lA 2 37 ([qF,uV 0,eS]) a (fun f w2 i a=>af (aa a ac ?_))));have ⟨b,c⟩:=dT (p:=(z:Int)<(0:Int)) oM;refine lB 4 b (ar (aa a ac (lV 6 (mV (18446744073709551616-ab z)) ?_ (hr:=rU (z) kR (by rw[IntKind.wrap_u64];unfold ab;omega)))));refine lV 7 (mV (ab z)) ?_ (hr:=rU ((0-((18446744073709551616-ab z:Nat):Int))) kR (by rw[IntKind.wrap_u64];omega));exact ao 8 a (EI (ab z) oM _ _ a.g) (fun j e a=>lL a [.v (wX qT (ab z))] (lP 0 0 (wC qT (ab z)) a (fun l a=>ae a [(0,0,3)] (wX qT (ab z)) (iM (by simp[aw,hz]) rfl))))
theorem E2 (n:Nat)(h1:n<9223372036854775808)(w:World)(h:Hp)(g:G w h):CV 64 #[nV n] w h (iv (n:Int)):=by
 have a:=sS g;refine go Tryz.func64 [(0,nV n)] rfl (aD (lA 2 37 ([qF,uV 0,eS]) a (fun e w2 f a=>af (aa a ac ?_))));have ⟨b,c⟩:=dF (p:=(n:Int)<(0:Int)) oM;refine lB 4 b (aj (cK (aa a ac (lV 11 (mV n) ?_ (hr:=rU ((n:Int)) kR (bD oM oM))))));exact ao 12 a (EI n oM _ _ a.g) (fun i d a=>lL a [.v (wX qF n)] (lP 0 0 (wC qF n) a (fun j a=>ae a [(0,0,3)] (wX qF n) (iM (by simp[aw]) (by simp[ab])))))
theorem FR (z:Int)(h0 : -9223372036854775808<=z)(h1:z<=9223372036854775807)(w:World)(h:Hp)(g:G w h):CV 64 #[iV z] w h (iv z):=by
 rcases Int.lt_or_le z 0 with hz|hz
 ·exact Fe z h0 hz w h g
 ·obtain ⟨n,rfl⟩:=GH hz
  exact E2 n oM w h g
def dJ(x y:Int):Int:=if x<y then -1 else if y<x then 1 else 0
theorem wJ {x y:Int}(h:x<y):dJ x y = -1:=by simp[dJ,h]
theorem vD {x y:Int}(h:y<x):dJ x y=1:=by unfold dJ;rw[if_neg oM,if_pos h]
theorem xC {x y:Int}(b:0<=x)(a:0<=y):dJ x y=bG (ab x) (ab y):=by
 unfold dJ bG ab
 have e1:(x<y)=(x.natAbs<y.natAbs):=by apply propext;omega
 have e2:(y<x)=(y.natAbs<x.natAbs):=by apply propext;omega
 simp only[e1,e2]
theorem wO {x y:Int}(b:x<0)(a:y<0):dJ x y=bG (ab y) (ab x):=by
 unfold dJ bG ab
 have e1:(x<y)=(y.natAbs<x.natAbs):=by apply propext;omega
 have e2:(y<x)=(x.natAbs<y.natAbs):=by apply propext;omega
 simp only[e1,e2]
theorem sV (z:Int)(w:World)(h:Hp)(g:G w h):CV 74 #[iv z] w h (nv (ab z)):=by
 have a:=sS g;exact go Tryz.func74 [(0,iv z)] rfl (aD (lA 1 37 (ic z) a (fun b w2 d a=>lA 2 35 ([uV 0,eS]) a (fun e f c a=>aK (lL a [.v (qP b 1),.o (nv (ab z)) 1 1 2] (lP 0 0 (nc (ab z)) a (fun i a=>ae a [(0,0,2)] (nv (ab z)) rfl)))))))
theorem BF (z:Int)(hz:aw z=true)(w:World)(h:Hp)(g:G w h):CV 73 #[wX (.bool true) (ab z)] w h (iV z.sign):=by
 have a:=sS g;exact go Tryz.func73 [(0,wX qT (ab z))] rfl (aD (lA 1 37 (wC qT (ab z)) a (fun b w2 d a=>lL a ac (af (kZ (aa a [.v (pB b),.o qT 0 0 1,.c] (ar (aa a ac (ae a [] (iV (-1)) (by rw[GL (bp hz)]))))))))))
theorem BI (z:Int)(i:(wds (ab z)).length<=1000000000)(hz:aw z=false)(h0:0<ab z)(w:World)(h:Hp)(g:G w h):CV 73 #[wX (.bool false) (ab z)] w h (iV z.sign):=by
 have a:=sS g;have f:=(bR h0).2.2;refine go Tryz.func73 [(0,wX qF (ab z))] rfl (aD (lA 1 37 (wC qF (ab z)) a (fun d w2 l a=>lL a ac (af (kZ (aa a [.v (pB d),.o qF 0 0 1,.c] (aj (aa a [.v (qP d 1),.o (nv (ab z)) 0 1 2] (ao 9 a (ef (ab z) aM _ _ a.g) (fun j u a=>?_))))))))));have ⟨b,e⟩:=dT (p:=(0:Int)<((nb (ab z):Nat):Int)) oM;exact lB 10 b (lL a ac (ar (aa a ac (ae a [] (iV 1) (by rw[GM (by have:=bc hz;unfold ab at h0;omega)])))))
theorem BD (i:(wds (ab 0)).length<=1000000000)(w:World)(h:Hp)(g:G w h):CV 73 #[wX (.bool false) (ab 0)] w h (iV 0):=by
 have a:=sS g;have f:nb (ab 0)=0:=rfl;refine go Tryz.func73 [(0,wX qF (ab 0))] rfl (aD (lA 1 37 (wC qF (ab 0)) a (fun d w2 l a=>lL a ac (af (kZ (aa a [.v (pB d),.o qF 0 0 1,.c] (aj (aa a [.v (qP d 1),.o (nv (ab 0)) 0 1 2] (ao 9 a (ef (ab 0) aM _ _ a.g) (fun j u a=>?_))))))))));have ⟨b,e⟩:=dF (p:=(0:Int)<((nb (ab 0):Nat):Int)) oM;exact lB 10 b (lL a ac (aj (cK (aa a ac (ae a [] (iV 0) rfl)))))
theorem jT (z:Int)(a:(wds (ab z)).length<=1000000000)(w:World)(h:Hp)(g:G w h):CV 73 #[iv z] w h (iV z.sign):=by
 rcases hz:aw z with _|_
 ·rw[iH hz]
  rcases yU (ab z) with h0|h0
  ·have:z=0:=by unfold ab at h0;omega
   subst this;exact BD a w h g
  ·exact BI z a hz h0 w h g
 ·rw[iH hz];exact BF z hz w h g
theorem DC (z:Int)(c:(wds (ab z)).length<=1000000000)(hz:aw z=false)(w:World)(h:Hp)(g:G w h):CV 81 #[wX (.bool false) (ab z)] w h (iv (-z)):=by
 have a:=sS g;exact go Tryz.func81 [(0,wX qF (ab z))] rfl (aD (lA 1 37 (wC qF (ab z)) a (fun b w2 i a=>lA 2 37 ([qF,uV 0,eS]) a (fun j l d a=>aK (lL a [.v (pB b),.o qF 1 0 1,.v qT,.v (qP b 1),.o (nv (ab z)) 1 1 2] (ao 8 a (ek true (ab z) aM _ _ a.g) (fun p f a=>lP 0 0 (ic (bT true (ab z))) a (fun u a=>ae a [(0,0,3)] (iv (bT true (ab z))) (by have e:=pt z;rw[hz] at e;exact congrArg iv e)))))))))
theorem D8 (z:Int)(c:(wds (ab z)).length<=1000000000)(hz:aw z=true)(w:World)(h:Hp)(g:G w h):CV 81 #[wX (.bool true) (ab z)] w h (iv (-z)):=by
 have a:=sS g;exact go Tryz.func81 [(0,wX qT (ab z))] rfl (aD (lA 1 37 (wC qT (ab z)) a (fun b w2 i a=>lA 2 37 ([qF,uV 0,eS]) a (fun j l d a=>aK (lL a [.v (pB b),.o qT 1 0 1,.v qF,.v (qP b 1),.o (nv (ab z)) 1 1 2] (ao 8 a (ek false (ab z) aM _ _ a.g) (fun p f a=>lP 0 0 (ic (bT false (ab z))) a (fun u a=>ae a [(0,0,3)] (iv (bT false (ab z))) (by have e:=pt z;rw[hz] at e;exact congrArg iv e)))))))))
theorem Dh (z:Int)(a:(wds (ab z)).length<=1000000000)(w:World)(h:Hp)(g:G w h):CV 81 #[iv z] w h (iv (-z)):=by
 rcases hz:aw z with _|_<;>rw[iH hz]
 ·exact DC z a hz w h g
 ·exact D8 z a hz w h g
theorem CN (x y:Int)(j:(wds (ab x)).length<=1000000000)(f:(wds (ab y)).length<=1000000000)(i:aw x=false)(e:aw y=false)(w:World)(h:Hp)(g:G w h):CV 41 #[wX (.bool false) (ab x),wX (.bool false) (ab y)] w h (iV (dJ x y)):=by
 have a:=sS g;refine go Tryz.func41 [(0,wX qF (ab x)),(1,wX qF (ab y))] rfl (aD (lA 2 37 (wC qF (ab x)) a (fun b w2 u a=>lA 3 37 (wC qF (ab y)) a (fun d B l a=>lL a ac (af (kZ (aa a [.v (pB b),.o qF 1 0 1,.c] (lG 9 ?_))))))));exact lG 10 (lL a [.v qF,.c] (aj (aa a [.v (pB b),.o qF 1 0 1,.c] (aj (aa a [.v (pB d),.o qF 0 0 1,.c] (aj (cK (aa a [.v (qP b 1),.o (nv (ab x)) 1 1 2,.v (qP d 1),.o (nv (ab y)) 0 1 2] (ao 27 a (ki (ab x) (ab y) aM aM _ _ a.g) (fun z p a=>lL a ac (ae a [] (iV (bG (ab x) (ab y))) (by rw[xC (bc i) (bc e)]))))))))))))
theorem Cy (x y:Int)(j:(wds (ab x)).length<=1000000000)(e:(wds (ab y)).length<=1000000000)(f:aw x=false)(d:aw y=true)(w:World)(h:Hp)(g:G w h):CV 41 #[wX (.bool false) (ab x),wX (.bool true) (ab y)] w h (iV (dJ x y)):=by
 have a:=sS g;refine go Tryz.func41 [(0,wX qF (ab x)),(1,wX qT (ab y))] rfl (aD (lA 2 37 (wC qF (ab x)) a (fun b w2 p a=>lA 3 37 (wC qT (ab y)) a (fun i u l a=>lL a ac (af (kZ (aa a [.v (pB b),.o qF 1 0 1,.c] (lG 9 ?_))))))));exact lG 10 (lL a [.v qF,.c] (aj (aa a [.v (pB b),.o qF 1 0 1,.c] (aj (aa a [.v (pB i),.o qT 0 0 1,.c] (ar (aa a ac (ae a [] (iV 1) (by rw[vD (by have:=bc f;have:=bp d;omega)])))))))))
theorem CJ (x y:Int)(j:(wds (ab x)).length<=1000000000)(e:(wds (ab y)).length<=1000000000)(f:aw x=true)(d:aw y=false)(w:World)(h:Hp)(g:G w h):CV 41 #[wX (.bool true) (ab x),wX (.bool false) (ab y)] w h (iV (dJ x y)):=by
 have a:=sS g;exact go Tryz.func41 [(0,wX qT (ab x)),(1,wX qF (ab y))] rfl (aD (lA 2 37 (wC qT (ab x)) a (fun b w2 p a=>lA 3 37 (wC qF (ab y)) a (fun i u l a=>lL a ac (af (kZ (aa a [.v (pB b),.o qT 1 0 1,.c,.v (pB i),.o qF 0 0 1,.v qF,.c] (aj (aa a [.v (pB b),.o qT 1 0 1,.c] (ar (aa a ac (ae a [] (iV (-1)) (by rw[wJ (by have:=bp f;have:=bc d;omega)])))))))))))))
theorem BN (x y:Int)(j:(wds (ab x)).length<=1000000000)(f:(wds (ab y)).length<=1000000000)(i:aw x=true)(e:aw y=true)(w:World)(h:Hp)(g:G w h):CV 41 #[wX (.bool true) (ab x),wX (.bool true) (ab y)] w h (iV (dJ x y)):=by
 have a:=sS g;exact go Tryz.func41 [(0,wX qT (ab x)),(1,wX qT (ab y))] rfl (aD (lA 2 37 (wC qT (ab x)) a (fun b w2 u a=>lA 3 37 (wC qT (ab y)) a (fun d B l a=>lL a ac (af (kZ (aa a [.v (pB b),.o qT 1 0 1,.c,.v (pB d),.o qT 0 0 1,.v qT,.c] (ar (aa a [.v (qP d 1),.o (nv (ab y)) 0 1 2,.v (qP b 1),.o (nv (ab x)) 1 1 2] (ao 16 a (ki (ab y) (ab x) aM aM _ _ a.g) (fun z p a=>lL a ac (ae a [] (iV (bG (ab y) (ab x))) (by rw[wO (bp i) (bp e)])))))))))))))
theorem sn (x y:Int)(b:(wds (ab x)).length<=1000000000)(a:(wds (ab y)).length<=1000000000)(w:World)(h:Hp)(g:G w h):CV 41 #[iv x,iv y] w h (iV (dJ x y)):=by
 rcases hx:aw x with _|_<;>rcases hy:aw y with _|_<;>rw[iH hx,iH hy]
 ·exact CN x y b a hx hy w h g
 ·exact Cy x y b a hx hy w h g
 ·exact CJ x y b a hx hy w h g
 ·exact BN x y b a hx hy w h g
theorem AM (x y:Int)(f:(wds (ab x)).length<=1000000000)(d:(wds (ab y)).length<=1000000000)(p:(wds (ab x+ab y)).length<=1000000000)(l:aw x=false)(j:aw y=false)(w:World)(h:Hp)(g:G w h):CV 38 #[wX (.bool false) (ab x),wX (.bool false) (ab y)] w h (iv (x+y)):=by
 have a:=sS g;have e:=bc l;have i:=bc j;refine go Tryz.func38 [(0,wX qF (ab x)),(1,wX qF (ab y))] rfl (aD (lA 2 37 (wC qF (ab x)) a (fun b w2 u a=>lA 3 37 (wC qF (ab y)) a (fun c F D a=>lA 4 37 ([qF,uV 0,eS]) a (fun z B C a=>af (aa a [.v (pB b),.o qF 2 0 1,.v (pB c),.o qF 1 0 1,.v qT] (ar (cQ (cR 8 [] mixed a am ?_)))))))));exact eV 0 14 (pB b) (eO 1 15 [(2,0,1)] qF a (eV 2 16 (qP b 1) (eO 3 17 [(2,1,2)] (nv (ab x)) a (eV 4 18 (qP c 1) (eO 5 19 [(1,1,2)] (nv (ab y)) a (ai 6 20 a (fun _ _ a=>Dr (ab x) (ab y) aM aM _ _ a.g) (fun _ _ a=>ai 7 21 a (fun _ _ a=>ek false ((ab x)+(ab y)) (by first|assumption|exact au (GN _ _) aM) _ _ a.g) (fun _ _ a=>bW a (fun _ _ a=>tP 8 0 0 (ic (bT false ((ab x)+(ab y)))) a (fun _ a=>tN (kX (a.ret [(0,0,3)] (iv (bT false ((ab x)+(ab y)))) (congrArg iv (by unfold bT ab at *;simp;omega))))))))))))))
theorem xO (x y:Int)(j:(wds (ab x)).length<=1000000000)(e:(wds (ab y)).length<=1000000000)(B:(wds (ab x+ab y)).length<=1000000000)(z:aw x=false)(u:aw y=true)(l:ab y<=ab x)(w:World)(h:Hp)(g:G w h):CV 38 #[wX (.bool false) (ab x),wX (.bool true) (ab y)] w h (iv (x+y)):=by
 have a:=sS g;have f:=bc z;have p:=bp u;exact go Tryz.func38 [(0,wX qF (ab x)),(1,wX qT (ab y))] rfl (aD (lA 2 37 (wC qF (ab x)) a (fun b w2 C a=>lA 3 37 (wC qT (ab y)) a (fun d J I a=>lA 4 37 ([qF,uV 0,eS]) a (fun D F H a=>af (aa a [.v (pB b),.o qF 2 0 1,.v (pB d),.o qT 1 0 1,.v qF] (aj (cK (cQ (aa a [.v (qP b 1),.o (nv (ab x)) 2 1 2,.v (qP d 1),.o (nv (ab y)) 1 1 2] (ao 27 a (xu (ab x) (ab y) oM aM aM _ _ a.g) (fun _ _ a=>lL a [.c,.v (nv ((ab x)-(ab y))),.v qT] (lA 5 35 ([uV 0,eS]) a (fun i _ _ a=>lP 0 0 (nc ((ab x)-(ab y))) a (fun _ a=>lL a ac (aK (lL a ac (ar (aa a [.v (pB b),.o qF 3 0 1,.o (nv ((ab x)-(ab y))) 0 0 2] (ao 34 a (ek false ((ab x)-(ab y)) (by first|assumption|exact au (GN _ _) aM) _ _ a.g) (fun _ _ a=>lP 1 0 (ic (bT false ((ab x)-(ab y)))) a (fun _ a=>ae a [(1,0,3)] (iv (bT false ((ab x)-(ab y)))) (congrArg iv (by unfold bT ab at *;simp;omega))))))))))))))))))))))))
theorem wt (x y:Int)(j:(wds (ab x)).length<=1000000000)(e:(wds (ab y)).length<=1000000000)(C:(wds (ab x+ab y)).length<=1000000000)(u:aw x=false)(p:aw y=true)(B:ab x<ab y)(w:World)(h:Hp)(g:G w h):CV 38 #[wX (.bool false) (ab x),wX (.bool true) (ab y)] w h (iv (x+y)):=by
 have a:=sS g;have f:=bc u;have l:=bp p;exact go Tryz.func38 [(0,wX qF (ab x)),(1,wX qT (ab y))] rfl (aD (lA 2 37 (wC qF (ab x)) a (fun d w2 D a=>lA 3 37 (wC qT (ab y)) a (fun b K J a=>lA 4 37 ([qF,uV 0,eS]) a (fun F H I a=>af (aa a [.v (pB d),.o qF 2 0 1,.v (pB b),.o qT 1 0 1,.v qF] (aj (cK (cQ (aa a [.v (qP d 1),.o (nv (ab x)) 2 1 2,.v (qP b 1),.o (nv (ab y)) 1 1 2] (ao 27 a (AD (ab x) (ab y) oM aM aM _ _ a.g) (fun _ _ a=>lL a [.c,.v (nv 0),.v qF] (lA 5 35 ([uV 0,eS]) a (fun i _ _ a=>lP 0 0 (nc 0) a (fun _ a=>lL a ac (aK (lL a ac (aj (cK (aa a [.v (qP b 1),.o (nv (ab y)) 2 1 2,.v (qP d 1),.o (nv (ab x)) 3 1 2] (ao 40 a (xu (ab y) (ab x) oM aM aM _ _ a.g) (fun _ _ a=>lL a [.c,.v (nv ((ab y)-(ab x))),.v qT] (lA 7 35 ([uV 0,eS]) a (fun z _ _ a=>lP 0 0 (nc ((ab y)-(ab x))) a (fun _ a=>lL a ac (aK (lL a [.v (pB b),.o qT 3 0 1,.o (nv ((ab y)-(ab x))) 0 0 2] (ao 46 a (ek true ((ab y)-(ab x)) (by first|assumption|exact au (GN _ _) aM) _ _ a.g) (fun _ _ a=>lP 2 0 (ic (bT true ((ab y)-(ab x)))) a (fun _ a=>ae a [(2,0,3)] (iv (bT true ((ab y)-(ab x)))) (congrArg iv (by unfold bT ab at *;simp;omega))))))))))))))))))))))))))))))))
theorem wG (x y:Int)(j:(wds (ab x)).length<=1000000000)(e:(wds (ab y)).length<=1000000000)(B:(wds (ab x+ab y)).length<=1000000000)(z:aw x=true)(u:aw y=false)(l:ab y<=ab x)(w:World)(h:Hp)(g:G w h):CV 38 #[wX (.bool true) (ab x),wX (.bool false) (ab y)] w h (iv (x+y)):=by
 have a:=sS g;have f:=bp z;have p:=bc u;exact go Tryz.func38 [(0,wX qT (ab x)),(1,wX qF (ab y))] rfl (aD (lA 2 37 (wC qT (ab x)) a (fun b w2 C a=>lA 3 37 (wC qF (ab y)) a (fun d J I a=>lA 4 37 ([qF,uV 0,eS]) a (fun D F H a=>af (aa a [.v (pB b),.o qT 2 0 1,.v (pB d),.o qF 1 0 1,.v qF] (aj (cK (cQ (aa a [.v (qP b 1),.o (nv (ab x)) 2 1 2,.v (qP d 1),.o (nv (ab y)) 1 1 2] (ao 27 a (xu (ab x) (ab y) oM aM aM _ _ a.g) (fun _ _ a=>lL a [.c,.v (nv ((ab x)-(ab y))),.v qT] (lA 5 35 ([uV 0,eS]) a (fun i _ _ a=>lP 0 0 (nc ((ab x)-(ab y))) a (fun _ a=>lL a ac (aK (lL a ac (ar (aa a [.v (pB b),.o qT 3 0 1,.o (nv ((ab x)-(ab y))) 0 0 2] (ao 34 a (ek true ((ab x)-(ab y)) (by first|assumption|exact au (GN _ _) aM) _ _ a.g) (fun _ _ a=>lP 1 0 (ic (bT true ((ab x)-(ab y)))) a (fun _ a=>ae a [(1,0,3)] (iv (bT true ((ab x)-(ab y)))) (congrArg iv (by unfold bT ab at *;simp;omega))))))))))))))))))))))))
theorem vF (x y:Int)(j:(wds (ab x)).length<=1000000000)(e:(wds (ab y)).length<=1000000000)(C:(wds (ab x+ab y)).length<=1000000000)(u:aw x=true)(p:aw y=false)(B:ab x<ab y)(w:World)(h:Hp)(g:G w h):CV 38 #[wX (.bool true) (ab x),wX (.bool false) (ab y)] w h (iv (x+y)):=by
 have a:=sS g;have f:=bp u;have l:=bc p;exact go Tryz.func38 [(0,wX qT (ab x)),(1,wX qF (ab y))] rfl (aD (lA 2 37 (wC qT (ab x)) a (fun d w2 D a=>lA 3 37 (wC qF (ab y)) a (fun b K J a=>lA 4 37 ([qF,uV 0,eS]) a (fun F H I a=>af (aa a [.v (pB d),.o qT 2 0 1,.v (pB b),.o qF 1 0 1,.v qF] (aj (cK (cQ (aa a [.v (qP d 1),.o (nv (ab x)) 2 1 2,.v (qP b 1),.o (nv (ab y)) 1 1 2] (ao 27 a (AD (ab x) (ab y) oM aM aM _ _ a.g) (fun _ _ a=>lL a [.c,.v (nv 0),.v qF] (lA 5 35 ([uV 0,eS]) a (fun i _ _ a=>lP 0 0 (nc 0) a (fun _ a=>lL a ac (aK (lL a ac (aj (cK (aa a [.v (qP b 1),.o (nv (ab y)) 2 1 2,.v (qP d 1),.o (nv (ab x)) 3 1 2] (ao 40 a (xu (ab y) (ab x) oM aM aM _ _ a.g) (fun _ _ a=>lL a [.c,.v (nv ((ab y)-(ab x))),.v qT] (lA 7 35 ([uV 0,eS]) a (fun z _ _ a=>lP 0 0 (nc ((ab y)-(ab x))) a (fun _ a=>lL a ac (aK (lL a [.v (pB b),.o qF 3 0 1,.o (nv ((ab y)-(ab x))) 0 0 2] (ao 46 a (ek false ((ab y)-(ab x)) (by first|assumption|exact au (GN _ _) aM) _ _ a.g) (fun _ _ a=>lP 2 0 (ic (bT false ((ab y)-(ab x)))) a (fun _ a=>ae a [(2,0,3)] (iv (bT false ((ab y)-(ab x)))) (congrArg iv (by unfold bT ab at *;simp;omega))))))))))))))))))))))))))))))))
theorem AW (x y:Int)(f:(wds (ab x)).length<=1000000000)(d:(wds (ab y)).length<=1000000000)(p:(wds (ab x+ab y)).length<=1000000000)(l:aw x=true)(j:aw y=true)(w:World)(h:Hp)(g:G w h):CV 38 #[wX (.bool true) (ab x),wX (.bool true) (ab y)] w h (iv (x+y)):=by
 have a:=sS g;have e:=bp l;have i:=bp j;refine go Tryz.func38 [(0,wX qT (ab x)),(1,wX qT (ab y))] rfl (aD (lA 2 37 (wC qT (ab x)) a (fun b w2 u a=>lA 3 37 (wC qT (ab y)) a (fun c F D a=>lA 4 37 ([qF,uV 0,eS]) a (fun z B C a=>af (aa a [.v (pB b),.o qT 2 0 1,.v (pB c),.o qT 1 0 1,.v qT] (ar (cQ (cR 8 [] mixed a am ?_)))))))));exact eV 0 14 (pB b) (eO 1 15 [(2,0,1)] qT a (eV 2 16 (qP b 1) (eO 3 17 [(2,1,2)] (nv (ab x)) a (eV 4 18 (qP c 1) (eO 5 19 [(1,1,2)] (nv (ab y)) a (ai 6 20 a (fun _ _ a=>Dr (ab x) (ab y) aM aM _ _ a.g) (fun _ _ a=>ai 7 21 a (fun _ _ a=>ek true ((ab x)+(ab y)) (by first|assumption|exact au (GN _ _) aM) _ _ a.g) (fun _ _ a=>bW a (fun _ _ a=>tP 8 0 0 (ic (bT true ((ab x)+(ab y)))) a (fun _ a=>tN (kX (a.ret [(0,0,3)] (iv (bT true ((ab x)+(ab y)))) (congrArg iv (by unfold bT ab at *;simp;omega))))))))))))))
theorem Bn (x y:Int)(j:(wds (ab x)).length<=1000000000)(f:(wds (ab y)).length<=1000000000)(o:(wds (ab x*ab y)).length<=1000000000)(e:aw x=false)(d:aw y=false)(w:World)(h:Hp)(g:G w h):CV 30 #[wX (.bool false) (ab x),wX (.bool false) (ab y)] w h (iv (x*y)):=by
 have a:=sS g;have i:=bc e;have l:=bc d;refine go Tryz.func30 [(0,wX qF (ab x)),(1,wX qF (ab y))] rfl (aD (lA 2 37 (wC qF (ab x)) a (fun b w2 p a=>lA 3 37 (wC qF (ab y)) a (fun c D C a=>lA 4 37 ([qF,uV 0,eS]) a (fun u z B a=>af (cR 11 [] mixed a am ?_))))));exact eV 0 5 (pB b) (eO 1 6 [(2,0,1)] qF a (eV 2 7 (pB c) (eO 3 8 [(1,0,1)] qF a (eV 4 9 qF (eV 5 10 (qP b 1) (eO 6 11 [(2,1,2)] (nv (ab x)) a (eV 7 12 (qP c 1) (eO 8 13 [(1,1,2)] (nv (ab y)) a (ai 9 14 a (fun _ _ a=>mG (ab x) (ab y) aM aM _ _ a.g) (fun _ _ a=>ai 10 15 a (fun _ _ a=>ek false ((ab x)*(ab y)) aM _ _ a.g) (fun _ _ a=>bW a (fun _ _ a=>tP 11 0 0 (ic (bT false ((ab x)*(ab y)))) a (fun _ a=>tN (kX (a.ret [(0,0,3)] (iv (bT false ((ab x)*(ab y)))) (by rw[<-lU x y,e,d];rfl))))))))))))))))
theorem CT (x y:Int)(j:(wds (ab x)).length<=1000000000)(f:(wds (ab y)).length<=1000000000)(o:(wds (ab x*ab y)).length<=1000000000)(e:aw x=false)(d:aw y=true)(w:World)(h:Hp)(g:G w h):CV 30 #[wX (.bool false) (ab x),wX (.bool true) (ab y)] w h (iv (x*y)):=by
 have a:=sS g;have i:=bc e;have l:=bp d;refine go Tryz.func30 [(0,wX qF (ab x)),(1,wX qT (ab y))] rfl (aD (lA 2 37 (wC qF (ab x)) a (fun b w2 p a=>lA 3 37 (wC qT (ab y)) a (fun c D C a=>lA 4 37 ([qF,uV 0,eS]) a (fun u z B a=>af (cR 11 [] mixed a am ?_))))));exact eV 0 5 (pB b) (eO 1 6 [(2,0,1)] qF a (eV 2 7 (pB c) (eO 3 8 [(1,0,1)] qT a (eV 4 9 qT (eV 5 10 (qP b 1) (eO 6 11 [(2,1,2)] (nv (ab x)) a (eV 7 12 (qP c 1) (eO 8 13 [(1,1,2)] (nv (ab y)) a (ai 9 14 a (fun _ _ a=>mG (ab x) (ab y) aM aM _ _ a.g) (fun _ _ a=>ai 10 15 a (fun _ _ a=>ek true ((ab x)*(ab y)) aM _ _ a.g) (fun _ _ a=>bW a (fun _ _ a=>tP 11 0 0 (ic (bT true ((ab x)*(ab y)))) a (fun _ a=>tN (kX (a.ret [(0,0,3)] (iv (bT true ((ab x)*(ab y)))) (by rw[<-lU x y,e,d];rfl))))))))))))))))
theorem Cj (x y:Int)(j:(wds (ab x)).length<=1000000000)(f:(wds (ab y)).length<=1000000000)(o:(wds (ab x*ab y)).length<=1000000000)(e:aw x=true)(d:aw y=false)(w:World)(h:Hp)(g:G w h):CV 30 #[wX (.bool true) (ab x),wX (.bool false) (ab y)] w h (iv (x*y)):=by
 have a:=sS g;have i:=bp e;have l:=bc d;refine go Tryz.func30 [(0,wX qT (ab x)),(1,wX qF (ab y))] rfl (aD (lA 2 37 (wC qT (ab x)) a (fun b w2 p a=>lA 3 37 (wC qF (ab y)) a (fun c D C a=>lA 4 37 ([qF,uV 0,eS]) a (fun u z B a=>af (cR 11 [] mixed a am ?_))))));exact eV 0 5 (pB b) (eO 1 6 [(2,0,1)] qT a (eV 2 7 (pB c) (eO 3 8 [(1,0,1)] qF a (eV 4 9 qT (eV 5 10 (qP b 1) (eO 6 11 [(2,1,2)] (nv (ab x)) a (eV 7 12 (qP c 1) (eO 8 13 [(1,1,2)] (nv (ab y)) a (ai 9 14 a (fun _ _ a=>mG (ab x) (ab y) aM aM _ _ a.g) (fun _ _ a=>ai 10 15 a (fun _ _ a=>ek true ((ab x)*(ab y)) aM _ _ a.g) (fun _ _ a=>bW a (fun _ _ a=>tP 11 0 0 (ic (bT true ((ab x)*(ab y)))) a (fun _ a=>tN (kX (a.ret [(0,0,3)] (iv (bT true ((ab x)*(ab y)))) (by rw[<-lU x y,e,d];rfl))))))))))))))))
theorem AF (x y:Int)(j:(wds (ab x)).length<=1000000000)(f:(wds (ab y)).length<=1000000000)(o:(wds (ab x*ab y)).length<=1000000000)(e:aw x=true)(d:aw y=true)(w:World)(h:Hp)(g:G w h):CV 30 #[wX (.bool true) (ab x),wX (.bool true) (ab y)] w h (iv (x*y)):=by
 have a:=sS g;have i:=bp e;have l:=bp d;refine go Tryz.func30 [(0,wX qT (ab x)),(1,wX qT (ab y))] rfl (aD (lA 2 37 (wC qT (ab x)) a (fun b w2 p a=>lA 3 37 (wC qT (ab y)) a (fun c D C a=>lA 4 37 ([qF,uV 0,eS]) a (fun u z B a=>af (cR 11 [] mixed a am ?_))))));exact eV 0 5 (pB b) (eO 1 6 [(2,0,1)] qT a (eV 2 7 (pB c) (eO 3 8 [(1,0,1)] qT a (eV 4 9 qF (eV 5 10 (qP b 1) (eO 6 11 [(2,1,2)] (nv (ab x)) a (eV 7 12 (qP c 1) (eO 8 13 [(1,1,2)] (nv (ab y)) a (ai 9 14 a (fun _ _ a=>mG (ab x) (ab y) aM aM _ _ a.g) (fun _ _ a=>ai 10 15 a (fun _ _ a=>ek false ((ab x)*(ab y)) aM _ _ a.g) (fun _ _ a=>bW a (fun _ _ a=>tP 11 0 0 (ic (bT false ((ab x)*(ab y)))) a (fun _ a=>tN (kX (a.ret [(0,0,3)] (iv (bT false ((ab x)*(ab y)))) (by rw[<-lU x y,e,d];rfl))))))))))))))))
theorem Dx (x y:Int)(b:(wds (ab x)).length+(wds (ab y)).length<=999999999)(w:World)(h:Hp)(g:G w h):CV 38 #[iv x,iv y] w h (iv (x+y)):=by
 have a:(wds (ab x+ab y)).length<=1000000000:=ez i6 oM
 rcases hx:aw x with _|_<;>rcases hy:aw y with _|_<;>rw[iH hx,iH hy]
 ·exact AM x y oM oM a hx hy w h g
 ·rcases ep (ab x) (ab y) with hc|hc
  ·exact wt x y oM oM a hx hy hc w h g
  ·exact xO x y oM oM a hx hy hc w h g
 ·rcases ep (ab x) (ab y) with hc|hc
  ·exact vF x y oM oM a hx hy hc w h g
  ·exact wG x y oM oM a hx hy hc w h g
 ·exact AW x y oM oM a hx hy w h g
theorem wR (x y:Int)(b:(wds (ab x)).length+(wds (ab y)).length<=1000000000)(w:World)(h:Hp)(g:G w h):CV 30 #[iv x,iv y] w h (iv (x*y)):=by
 have a:(wds (ab x*ab y)).length<=1000000000:=ez cn oM
 rcases hx:aw x with _|_<;>rcases hy:aw y with _|_<;>rw[iH hx,iH hy]
 ·exact Bn x y oM oM a hx hy w h g
 ·exact CT x y oM oM a hx hy w h g
 ·exact Cj x y oM oM a hx hy w h g
 ·exact AF x y oM oM a hx hy w h g
theorem tc (n:Nat)(X:(wds n).length<=1000000000)(w:World)(h:Hp)(g:G w h):CR 140 #[nv n] w h (fun v h1=>∃ A,v=.slice A ((nb n+7)/8) ((nb n+7)/8)/\SlO 1 kp 0 h1 A (eg n ((nb n+7)/8))):=by
 have c:=sS g;have Z:=jK n;have hwl:=jW n;refine go Tryz.func140 [(0,nv n)] rfl (aD (lA 1 35 (nc n) c (fun H w2 h3 c=>lL c ac (aK (lL c [.o (nv n) 0 0 2] (ao 8 c (ef n X _ _ c.g) (fun w4 h5 c=>bA 9 ((nb n:Nat)+7) ((nb n)+7) (lV 10 (nV (((nb n)+7)/8)) ?_ (hr:=aY (db (t:=3) (u:=3) (x:=.tmp 9) (y:=.const (iV 8)) (k:=.i64) (a:=(((nb n)+7:Nat):Int)) (b:=(8:Int)) kR kR kR oM _) (cM ((nb n)+7) 8 oM))))))))));refine lL c ac (aK (lL c ac (lK 12 5 (((nb n)+7)/8:Nat) 1 1 (.int .u8 0) kp 0 c (fun e w7 h8 c=>?_))));have I:(yJ (((nb n)+7)/8:Nat) 0).length=(((nb n)+7)/8:Nat):=by simp
 refine lL c ac (aK (lL c [.o (nv n) 1 0 2] (lC 14 c (eN n oM _ _ c.g) ?_)));rintro _ _ zd c ⟨z,C,rfl,V,J⟩;replace c:=c.aS J;refine lL c ac (af (aa c aF (ba ?_)));refine bS _ (CG.loop (fun L Γ W=>∃ (i:Nat)(l:List Nat)(K:Hp),L=((nb n+7)/8)-i/\Γ=[(2,sZ),(3,nV (((nb n)+7)/8)),(4,qS (sB e) (((nb n)+7)/8:Nat) (((nb n)+7)/8:Nat)),(5,qS z ((wds n).length) C),(15,nV (((nb n)+7)/8)),(16,nV i)]/\SS w h W K [⟨e,5,(l).flatMap kp⟩,⟨H,35,nc n⟩] [] [fun K=>SlO 1 ag 0 K z (wds n)]/\i<=((nb n+7)/8)/\l.length=((nb n+7)/8)/\(∀ j,j<i->l.getD (((nb n+7)/8)-1-j) 0=n/256^j%256)) _ ⟨0,yJ (((nb n)+7)/8:Nat) 0,zd,rfl,rfl,c.to _ _,GA _,I,(fun j U=>absurd U oM)⟩ ?_);rintro _ _ _ ⟨i,l,ze,M,rfl,c,hi,p,S⟩;have hwi:=ll n (i/8);refine aD ?_;cases D:(decide ((i:Int)<((((nb n)+7)/8:Nat):Int)))
 .
  have Y:=oF D;refine lB 17 D (af (cG (CG.exit ?_)))
  show CG _ _ _ _ _ _ _ _
  refine aa c aF (lN (kX ?_));have him:i=((nb n+7)/8):=by omega
  have F:l=eg n ((nb n+7)/8):=o3 p (fun j U=>S j oM);rw[F] at c
  obtain ⟨_,c,B,Q,O⟩:=c.pub 0;replace c:=(c.to [⟨H,35,nc n⟩] []).aS (SlO.of_flat (sz:=1) (f:=kp) (d:=0) (b:=e) (o:=0) (l:=eg n ((nb n+7)/8)) (fun _=>rfl) B);exact c.ret [] (qS (sB e) (((nb n)+7)/8:Nat) (((nb n)+7)/8:Nat)) (⟨sB e,rfl,c.f.1⟩)
 have Y:=oT D;refine lB 17 D (af (bY (cK (cQ (kZ (aa c aF (lN (kQ (lL c aF (bA 21 ((((nb n)+7)/8:Nat)-1) ((((nb n)+7)/8:Nat)-1) ?_))))))))));refine lL c ac (bA 23 (((((nb n)+7)/8:Nat)-1:Nat)-(i:Nat)) (((((nb n)+7)/8:Nat)-1:Nat)-i) ?_);refine lL c aF (lV 26 (nV (i/8)) ?_ (hr:=aY (db (t:=3) (u:=3) (x:=.tmp 25) (y:=.const (iV 8)) (k:=.i64) (a:=(i:Int)) (b:=(8:Int)) kR kR kR oM _) (cM i 8 oM)));refine lX 27 z ((wds n).length) C 1 (i/8:Nat) (i/8) ((c.f.1).ok oM) (lH 28 (mV ((wds n).getD (i/8) 0)) c ((c.f.1).el (i/8) oM) (lL c ac (lV 30 (nV (i%8)) ?_ (hr:=aY (eT (t:=3) (u:=3) (x:=.tmp 29) (y:=.const (iV 8)) (k:=.i64) (a:=(i:Int)) (b:=(8:Int)) kR kR kR oM _) (cX i 8)))));refine bA 31 (8*(i%8:Nat)) (8*(i%8)) (lV 32 (mV (((wds n).getD (i/8) 0)/2^(8*(i%8)))) ?_ (hr:=fA (t:=33) (u:=3) (x:=.tmp 28) (y:=.tmp 31) (ky:=.i64) (a:=((wds n).getD (i/8) 0)) (n:=(8*(i%8))) kR kR kR oM _));refine lV 33 (.int .u8 ((wds n).getD (i/8) 0/2^(8*(i%8))%256:Nat)) ?_ (hr:=aY (n:=IntKind.wrap .u8 (((wds n).getD (i/8) 0/2^(8*(i%8)):Nat):Int)) kR (vJ _));refine lX 34 (sB e) (((nb n)+7)/8:Nat) (((nb n)+7)/8:Nat) 1 (((((nb n)+7)/8:Nat)-1:Nat)-i:Nat) (((((nb n)+7)/8:Nat)-1:Nat)-i:Nat) rfl (lW 0 l kp 1 (((((nb n)+7)/8:Nat)-1:Nat)-i:Nat) ((wds n).getD (i/8) 0/2^(8*(i%8))%256:Nat) c oM (fun _ c=>?_));have zc:((l).set (((((nb n)+7)/8:Nat)-1:Nat)-i:Nat) ((wds n).getD (i/8) 0/2^(8*(i%8))%256:Nat)).length=(((nb n)+7)/8:Nat):=by rw[Gq];exact p
 replace c:=c.to [⟨e,5,((l).set (((((nb n)+7)/8:Nat)-1:Nat)-i:Nat) ((wds n).getD (i/8) 0/2^(8*(i%8))%256:Nat)).flatMap kp⟩,⟨H,35,nc n⟩] [];refine lN (kQ (bA 35 ((i:Nat)+1) (i+1) ?_));refine lL c ac (lD ?_);intro a_ ka;refine ⟨_,_,?_,⟨i+1,(l).set (((((nb n)+7)/8:Nat)-1:Nat)-i:Nat) ((wds n).getD (i/8) 0/2^(8*(i%8))%256:Nat),ze,rfl,rfl,c.to _ _,oM,zc,(fu p oM S (sR n i))⟩,ka.to _ kR⟩
 omega
theorem ui (n m:Nat)(A:Z9)(c:Nat)(hc:m<=c)(hm:m<=10000000000)(Z:n<256^m)(w:World)(h:Hp)(g:G w h)(hA:SlO 1 kp 0 h A (eg n m)):CV 83 #[.slice A m c] w h (nv n):=by
 have e:=((sS g).aS hA);have hbl:=hC n m;refine go Tryz.func83 [(0,qS A m c)] rfl (aD (lA 2 35 ([uV 0,eS]) e (fun z w2 h3 e=>aK (lL e [.c,.v (nV m)] (bA 7 ((m:Nat)+7) (m+7) ?_)))));refine lV 8 (nV ((m+7)/8)) ?_ (hr:=aY (db (t:=3) (u:=3) (x:=.tmp 7) (y:=.const (iV 8)) (k:=.i64) (a:=((m+7:Nat):Int)) (b:=(8:Int)) kR kR kR oM _) (cM (m+7) 8 oM));refine lK 9 33 ((m+7)/8) 1 8 (uV 0) ag 0 e (fun j w5 h6 e=>?_);have F:(yJ ((m+7)/8) 0).length=((m+7)/8):=by simp
 refine lL e ac (af (aa e [.c,.v (nV m),.c] (ba ?_)));refine bS _ (CG.loop (fun L Γ W=>∃ (i:Nat)(l:List Nat)(K:Hp),L=m-i/\Γ=[(0,qS A m c),(2,pB z),(3,qS (sB j) ((m+7)/8) ((m+7)/8)),(11,nV m),(12,nV i)]/\SS w h W K [⟨j,33,(l).flatMap ag⟩,⟨z,35,[uV 0,eS]⟩] [] [fun K=>SlO 1 kp 0 K A (eg n m)]/\i<=m/\l.length=(m+7)/8/\Wd l/\ax l=n%256^i) _ ⟨0,yJ ((m+7)/8) 0,h6,rfl,rfl,e.to _ _,GA _,F,Wd.rep _,(by show ah _ _=_;rw[ee,Gy,Nat.mod_one])⟩ ?_);rintro _ _ w8 ⟨i,l,h9,S,rfl,e,hi,M,D,inv⟩;have V:=iz n m (m-1-i);refine aD ?_;cases B:(decide ((i:Int)<(m:Int)))
 .
  have X:=oF B;refine lB 13 B (af (cG (CG.exit ?_)))
  show CG _ _ _ _ _ _ _ _
  refine aD ?_;have I:i=m:=by omega
  have U:ax l=n:=by rw[inv,I];exact yL Z
  obtain ⟨_,e,p,O,Q⟩:=e.pub 0;replace e:=(e.to [⟨z,35,[uV 0,eS]⟩] []).aS (SlO.of_flat (sz:=1) (f:=ag) (d:=0) (b:=j) (o:=0) (l:=l) (fun _=>rfl) p);exact lL e ac (ao 37 e (co (sB j) ((m+7)/8) (l) ((m+7)/8) (n) (by first|rfl|assumption|(simp;done)|(simp;omega)|omega) (D) (U) sM sM _ _ e.g e.f.1) (fun _ _ e=>lP 0 0 (nc n) e (fun _ e=>ae e [(0,0,2)] (nv n) rfl)))
 have X:=oT B;refine lB 13 B (af (bY (cK (cQ (kZ (aa e aF (lN (cR 19 [] mixed e am ?_))))))));refine eV 0 15 (qS (sB j) ((m+7)/8) ((m+7)/8)) (eV 1 16 (nV i) (eV 2 17 (nV (i/8)) ?_ (hv:=fun _=>aY (db (t:=3) (u:=3) (x:=.tmp 16) (y:=.const (iV 8)) (k:=.i64) (a:=(i:Int)) (b:=(8:Int)) kR kR kR oM _) (cM i 8 oM))));refine eX 3 18 (sB j) ((m+7)/8) ((m+7)/8) 1 (i/8:Nat) (i/8) rfl (eQ 4 19 0 l ag 1 0 (i/8) (mV ((l).getD (i/8) 0)) e oM (eV 5 20 (qS A m c) (eV 6 21 (qS A m c) (eV 7 22 (nV m) (km 8 23 ((m:Nat)-1) (m-1) (eV 9 24 (nV i) (km 10 25 ((m-1:Nat)-(i:Nat)) ((m-1)-i) (eX 11 26 A m c 1 ((m-1)-i:Nat) ((m-1)-i) ((e.f.1).ok oM) (eH 12 27 (.int .u8 ((eg n m).getD ((m-1)-i) 0:Nat)) e ((e.f.1).el ((m-1)-i) oM) (eV 13 28 (mV ((eg n m).getD ((m-1)-i) 0)) ?_ (hv:=fun _=>rU ((((eg n m).getD ((m-1)-i) 0:Nat):Int)) kR (bD oM oM))))))))))));refine eV 14 29 (nV i) (eV 15 30 (nV (i%8)) ?_ (hv:=fun _=>aY (eT (t:=3) (u:=3) (x:=.tmp 29) (y:=.const (iV 8)) (k:=.i64) (a:=(i:Int)) (b:=(8:Int)) kR kR kR oM _) (cX i 8)));refine km 16 31 (8*(i%8:Nat)) (8*(i%8)) (eV 17 32 (mV (((eg n m).getD ((m-1)-i) 0:Nat)*2^(8*(i%8))%18446744073709551616)) ?_ (hv:=fun _=>fy (t:=33) (u:=3) (x:=.tmp 28) (y:=.tmp 31) (ky:=.i64) (a:=((eg n m).getD ((m-1)-i) 0:Nat)) (n:=(8*(i%8))) kR kR kR _));obtain ⟨H,C,J⟩:=pI oM inv (show (eg n m).getD (m-1-i) 0=n/256^i%256 by rw[gj n m _ oM,show m-1-(m-1-i)=i by omega]);have Y:=D.get (i/8);refine eV 18 33 (mV (l.getD (i/8) 0+(eg n m).getD (m-1-i) 0*2^(8*(i%8)))) ?_ (hv:=fun _=>aY (im (t:=33) (u:=33) (x:=.tmp 19) (y:=.tmp 32) (a:=((l).getD (i/8) 0)) (b:=(((eg n m).getD ((m-1)-i) 0:Nat)*2^(8*(i%8))%18446744073709551616:Nat)) kR kR kR oM oM _) (by rw[H]));refine bW e (fun _ zd e=>tX 19 34 (sB j) ((m+7)/8) ((m+7)/8) 1 (i/8:Nat) (i/8) rfl (tW 20 0 l ag 1 (i/8) (l.getD (i/8) 0+(eg n m).getD (m-1-i) 0*2^(8*(i%8)):Nat) e oM (fun _ e=>?_)));have zc:((l).set (i/8) (l.getD (i/8) 0+(eg n m).getD (m-1-i) 0*2^(8*(i%8)):Nat)).length=((m+7)/8):=by rw[Gq];exact M
 replace e:=e.to [⟨j,33,((l).set (i/8) (l.getD (i/8) 0+(eg n m).getD (m-1-i) 0*2^(8*(i%8)):Nat)).flatMap ag⟩,⟨z,35,[uV 0,eS]⟩] [];refine tN (kQ (bA 35 ((i:Nat)+1) (i+1) ?_));refine lL e ac (lD ?_);intro a_ ka;refine ⟨_,_,?_,⟨i+1,(l).set (i/8) (l.getD (i/8) 0+(eg n m).getD (m-1-i) 0*2^(8*(i%8)):Nat),zd,rfl,rfl,e.to _ _,oM,zc,(D.set _ C),J⟩,ka.to _ kR⟩
 omega
theorem Cs (n k:Nat)(x:(wds n).length<=1000000000)(hk:k<=65536)(w:World)(h:Hp)(g:G w h):CV 113 #[nv n,nV k] w h (nv (n*2^k)):=by
 have a:=sS g;refine go Tryz.func113 [(0,nv n),(1,nV k)] rfl (aD (lA 2 35 (nc n) a (fun F w2 H a=>lA 4 35 ([uV 0,eS]) a (fun I M L a=>aK (lL a ac (lV 6 (nV k) ?_ (hr:=aY (n:=if (65536:Int)<(k:Int) then (65536:Int) else (k:Int)) kR (if_neg oM))))))));refine lV 7 (nV k) ?_ (hr:=aY (n:=if (k:Int)>(-65536:Int) then (k:Int) else (-65536:Int)) kR (if_pos oM));refine lL a ac (af (aa a ac ?_));have ⟨b,u⟩:=dF (p:=(k:Int)<(0:Int)) oM;refine lB 9 b (aj (cK (aa a [.o (nv n) 1 0 2] (lC 17 a (eN n oM _ _ a.g) ?_))));rintro _ J K a ⟨j,i,rfl,l,e⟩;replace a:=a.aS e;refine lL a ac (lC 19 a (uy j i (wds n) (Wd.wds n) x k oM _ _ a.g a.f.1) ?_);rintro _ _ _ a ⟨D,B,z,rfl,C,y,d,c,hz⟩;replace a:=a.aS hz;exact ao 20 a (co D B (z) z.length ((n*2^k)) (by first|rfl|assumption|(simp;done)|(simp;omega)|omega) (d) (by rw[c,aI]) sM sM _ _ a.g a.f.1) (fun _ _ a=>lP 0 0 (nc (n*2^k)) a (fun _ a=>ae a [(0,0,2)] (nv (n*2^k)) rfl))
section
variable {P:Program}{Γ:bO}{o:Oper}
theorem D5 {t e:TypeId}{x ix:Operand}{b off sz len:Nat}{i:Int}{kk:IntKind}(k:Nat)(j:o.op=.indexAddr t x ix)(l:ev Γ x=.pointer (some ⟨b,off,none⟩))(hi:ev Γ ix=.int kk i)
    (h:P.underlying t=some (.array len e))(c:(P.info? e).map (·.size)=some sz)(hk:i=k)(u:k<len)(w:World) :
    (execOp (ev Γ) o).run P w=.ok (.value (.pointer (some ⟨b,off+k*sz,none⟩))) w:=by
  subst hk
  unfold execOp
  simp only[j]
  rw[l,hi];have d:P.elem t=e:=by unfold Program.elem;rw[h]
  have f:P.arrayLen t=len:=by unfold Program.arrayLen;rw[h]
  have h1:=run_indexAt_array (P:=P) w t ⟨b,off,none⟩ kk (k:Int) (by rw[d,f];exact h);rw[f,if_pos ⟨by omega,by omega⟩,d] at h1
  have p:(sizeOf e).run P w=.ok sz w:=by
    cases a:P.info? e with
    | none=>rw[a] at c;cases c
    | some i =>
      rw[a] at c
      simp at c
      simp[sizeOf,typeInfo,a,c]
  rw[p] at h1
  simp[h1,Result.andThen,Addr.add]
end
def Tz (n k m:Nat):Prop:=n=2^k*m/\m%2=1
theorem Ck {x:Nat}(h0:x≠0)(h:x<18446744073709551616):∃ m,Tz x (Lib.ctz 64 x) m/\Lib.ctz 64 x<64:=by
 unfold Lib.ctz
 rw[if_neg h0];obtain ⟨m,e,a⟩:=Lib.ctzFrom_spec 64 x oM h;exact ⟨2*m+1,⟨e,by omega⟩,a⟩
theorem Tz.odd_pos {n k m:Nat}(h:Tz n k m):0<m:=by have:=h.2;omega
theorem Tz.word {n i x k m r:Nat}(e:n=18446744073709551616^i*(x+18446744073709551616*r))(t:Tz x k m)(hk:k<64):Tz n (64*i+k) (m+2^(64-k)*r):=by
 obtain ⟨b,c⟩:=t;refine ⟨?_,?_⟩
 ·have a:(18446744073709551616:Nat)=2^k*2^(64-k):=by rw[<-A4,show k+(64-k)=64 by omega]
  have e1:(18446744073709551616:Nat)^i=2^(64*i):=by rw[A7]
  rw[e,e1,b]
  conv=>lhs;rw[a]
  rw[A4,Ab (2^k),<-z8,<-Ab]
 ·obtain ⟨j,hj⟩:∃ j,64-k=j+1:=⟨63-k,by omega⟩
  rw[hj,z6,y8 (2^j) 2,Ab]
  omega
theorem Tz.uniq {n k m c f:Nat}(a:Tz n k m)(b:Tz n c f):k=c/\m=f:=by
 obtain ⟨j,l⟩:=a;obtain ⟨i,o⟩:=b
 have key:∀ {k m c f:Nat},2^k*m=2^c*f->m%2=1->c<=k:=fun {k m c f} e u=>by
  rcases ep k c with h|h
  ·exfalso
   obtain ⟨d,rfl⟩:∃ d,c=k+(d+1):=⟨c-k-1,by omega⟩;rw[A4,Ab] at e
   have e2:=GO (As k) e;rw[z6,y8 (2^d) 2,Ab] at e2
   omega
  ·exact h
 have h1:=key (j.symm.trans i) l;have x:=key (i.symm.trans j) o;have p:k=c:=by omega
 subst p;exact ⟨rfl,GO (As k) (j.symm.trans i)⟩
theorem l6 {x y:Nat}(a:y%2=1):GP (2*x) y=GP x y:=by
 have b:Nat.Coprime 2 y:=by
  unfold Nat.Coprime
  rw[Nat.gcd_rec,a];rfl
 exact b.gcd_mul_left_cancel x
theorem dX {x y:Nat}(a:y%2=1):∀ k,GP (2^k*x) y=GP x y
  | 0=>by simp
  | k+1=>by
    rw[z6,y8 (2^k) 2,Ab,l6 a];exact dX a k
theorem th {x y k l m n:Nat}(a:Tz x k m)(b:Tz y l n):GP x y=GP m n*2^min k l:=by
 obtain ⟨i,c⟩:=a;obtain ⟨f,e⟩:=b;subst i f
 rcases GQ k l with h|h
 ·rw[Ag h]
  obtain ⟨d,rfl⟩:∃ d,l=k+d:=⟨l-k,by omega⟩;rw[A4,Ab,GR,GB m,dX c,GB n,y8]
 ·rw[F9 h]
  obtain ⟨d,rfl⟩:∃ d,k=l+d:=⟨k-l,by omega⟩;rw[A4,Ab,GR,dX e,y8]
theorem pE {x y k m:Nat}(b:y<x)(a:y%2=1)(t:Tz (x-y) k m):GP m y=GP x y:=by
 rw[<-dX a k,<-t.1];have e:=Nat.gcd_add_self_left (m:=y) (n:=x-y);rw[show x-y+y=x by omega] at e
 exact e.symm
theorem SlO.win {α:Type}{f:α->List Value}{d:α}{h:Hp}{b:Nat}{l:List α}(hf:∀ x,(f x).length=1)(i:Seg h b 0 (l.flatMap f))(o n:Nat):SlO 1 f d h (some ⟨b,o,none⟩) ((l.drop o).take n):=by
  have a:=i.part o ((l.drop o).take n).length;rw[yF] at a
  have e:∀ (l:List α) (o n:Nat),((l.flatMap f).drop o).take ((l.drop o).take n).length=((l.drop o).take n).flatMap f:=by
    have e1:∀ (l:List α),(l.flatMap f).length=l.length:=fun l=>by
      induction l with
      | nil=>rfl
      | cons x l ih=>rw[ys,List.length_append,hf,ih,List.length_cons];omega
    have c:∀ (l:List α) (o:Nat),(l.flatMap f).drop o=(l.drop o).flatMap f:=fun l=>by
      induction l with
      | nil=>intro o;simp
      | cons x l ih =>
        intro o;cases o with
        | zero=>rfl
        | succ o =>
          rw[ys,List.drop_append,hf,yC (by rw[hf];omega),List.nil_append,List.drop_succ_cons,F7];exact ih o
    have et:∀ (l:List α) (n:Nat),(l.flatMap f).take n=(l.take n).flatMap f:=fun l=>by
      induction l with
      | nil=>intro n;simp
      | cons x l ih =>
        intro n;cases n with
        | zero=>rfl
        | succ n =>
          rw[ys,List.take_append,hf,Ft (by rw[hf];omega),List.take_succ_cons,ys,F7,ih n]
    intro l o n;rw[c,et,y9]
    congr 1
    rcases GQ n (l.drop o).length with h|h
    . rw[Ag h]
    . rw[F9 h,yw,Ft h]
  rw[e] at a
  exact SlO.of_flat hf a
def Tab (h:Hp):Prop:=Seg h 2 0 (Lib.deBruijn64tab.map fun k=>Value.int .u8 ((k:Nat):Int))
theorem Tab.gw {h a:Hp}(t:Tab h)(u:Gw h a):Tab a:=Seg.gw t u
theorem SS.aB {w0 w:World}{h0 h:Hp}{B:List Bx}{R:List Rw}{F:List (Hp->Prop)}(s:SS w0 h0 w h B R F)(p:Tab h):SS w0 h0 w h B R ((fun h=>Tab h)::F):=s.add (K:=fun h=>Tab h) p
theorem Tab.at {h:Hp}(t:Tab h){k i:Nat}(e:i<64/\Lib.deBruijn64tab.getD i 0=k):Seg h 2 i [.int .u8 ((k:Nat):Int)]:=by
 have a:=Seg.part t i 1;obtain ⟨hi,rfl⟩:=e;rw[yF] at a
 have b:i<Lib.deBruijn64tab.length:=by show i<64;exact hi
 have e1:((Lib.deBruijn64tab.map fun k=>Value.int .u8 ((k:Nat):Int)).drop i).take 1=[.int .u8 ((Lib.deBruijn64tab.getD i 0:Nat):Int)]:=by
  rw[List.drop_eq_getElem_cons (by simpa using b)]
  simp[b]
 rw[e1] at a
 exact a
theorem E8 {s:Result Next}{b z:Nat}{w:World}(h:s=.ok (.value (.pointer (some ⟨b,0+z*1,none⟩))) w):s=.ok (.value (.pointer (some ⟨b,z,none⟩))) w:=by rw[h,F8,yF]
theorem sL {l:List Nat}(a:Wd l)(b:l.length<=(wds (ax l)).length):wds (ax l)=l:=by
 have e:=lr a;have h1:(wds (ax l)).length=min (tl l l.length) l.length:=by rw[e,y9]
 have c:=gA l l.length;rw[e,Ft oM]
theorem Fd {l:List Nat}(a:Wd l):ax l<256^(8*l.length):=by
 have:=bJ a;rw[A7];exact this
theorem Bb {a b:Nat}(h:wds a=wds b):a=b:=by rw[<-aI a,<-aI b,h]
theorem tm {l:List Nat}{i:Nat}(h:i<l.length)(h0:l.getD i 0=0){n:Nat}(inv:n=18446744073709551616^i*ah 18446744073709551616 (l.drop i)):n=18446744073709551616^(i+1)*ah 18446744073709551616 (l.drop (i+1)):=by
 rw[inv,d5 _ h,h0,yF,z6,Ab]
theorem Ei (x:Nat)(o:x≠0)(B:x<18446744073709551616)(w:World)(h:Hp)(g:G w h)(D:Tab h):CV 141 #[mV x] w h (nV (Lib.ctz 64 x)):=by
 have d:=((sS g).aB D);obtain ⟨l,hk⟩:=Lib.lowest_bit 64 x o B;have c:=Lib.deBruijn64_at _ hk
 generalize Lib.ctz 64 x=k at *
 generalize hp:2^k=p at *
 obtain ⟨y,hy⟩:∃ y,p*285870213051353865%18446744073709551616=y:=⟨_,rfl⟩;rw[hy] at c
 obtain ⟨z,hz⟩:∃ z,y/288230376151711744=z:=⟨_,rfl⟩;rw[hz] at c
 refine go Tryz.func141 [(0,mV x)] rfl (aa d ac (af (aa d ac ?_)));have j:((x:Int) == (0:Int))=false:=e9 oM;have C:=aq j;refine lB 4 j (aj (cK (aa d aF (lV 7 (mV (18446744073709551616-x)) ?_ (hr:=rU ((0-(x:Int))) kR (by rw[IntKind.wrap_u64];omega))))));refine lV 8 (mV p) ?_ (hr:=aY (n:=bits .and .u64 (x:Int) ((18446744073709551616-x:Nat):Int)) kR (by rw[bits_and_u64_nat _ _ B oM];exact congrArg _ l));refine lV 9 (mV y) ?_ (hr:=rU (((p:Int)*285870213051353865)) kR ((jM p 285870213051353865).trans (congrArg _ hy)));refine lV 10 (mV z) ?_ (hr:=aY (fA (t:=33) (u:=154) (x:=.tmp 9) (y:=.const (uV 58)) (ky:=.u64) (a:=y) (n:=58) kR kR kR oM _) (congrArg _ (by rw[show (2:Nat)^58=288230376151711744 from rfl];exact hz)));refine lV 11 (qP 2 z) ?_ (hr:=E8 (D5 (t:=226) (e:=5) (x:=.global 2) (ix:=.tmp 10) (b:=2) (off:=0) (sz:=1) (len:=64) (kk:=.u64) (i:=(z:Int)) z kR kR kR kR kR rfl c.1 _));refine lH 12 (.int .u8 (k:Int)) d (Tab.at d.f.1 c) (lV 13 (nV k) ?_ (hr:=rS ((k:Int)) kR (mc oM oM)));exact lL d ac (ae d [] (nV k) rfl)
theorem oE (A:Z9)(c:Nat)(l:List Nat)(n:Nat)(M:l.length=n)(y:Wd l)(K:0<ax l)(J:l.length<=1000000000)(w:World)(h:Hp)(g:G w h)(C:Tab h)(H:SlO 1 ag 0 h A l):CR 108 #[.slice A n c] w h (fun v _=>∃ k m:Nat,v=nV k/\Tz (ax l) k m/\k/64<l.length):=by
 have a:=(((sS g).aB C).aS H);refine go Tryz.func108 [(0,qS A n c)] rfl (aa a ac (aK (lL a ac (af (kZ ?_)))));refine bS _ (CG.loop (fun u Γ B=>∃ (i:Nat)(b:Hp),u=l.length-i/\Γ=[(0,qS A n c),(2,iV 0),(3,nV i)]/\SS w h B b [] [] [fun b=>SlO 1 ag 0 b A l,fun b=>Tab b]/\i<=l.length/\ax l=18446744073709551616^i*ah 18446744073709551616 (l.drop i)) _ ⟨0,h,rfl,rfl,a.to _ _,GA _,(by show ah _ _=_;rw[Gy,Nat.one_mul,yu])⟩ ?_);rintro _ _ w1 ⟨i,D,z,rfl,a,hi,inv⟩;have o:i<l.length:=by rcases ep i l.length with b|b;exact b;rw[yC b] at inv;simp[ah] at inv;omega
 refine cQ (aa a aF (lX 6 A n c 1 (i:Nat) i ((a.f.1).ok oM) ?_));refine lH 7 (mV (l.getD i 0)) a ((a.f.1).el i oM) ?_;cases d:(((l.getD i 0:Nat):Int) == (0:Int))
 .
  have e:=aq d;refine lB 8 d (aj (CG.exit ?_))
  show CG _ _ _ _ _ _ _ _
  refine aa a ac (lI 12 (64*(i:Nat)) ?_);refine lL a aF (lX 15 A n c 1 (i:Nat) i ((a.f.1).ok oM) ?_);refine lH 16 (mV (l.getD i 0)) a ((a.f.1).el i oM) (ao 17 a (Ei (l.getD i 0) oM (y.get i) _ _ a.g a.f.2.1) (fun Q O a=>?_));obtain ⟨I,p,j⟩:=Ck (x:=l.getD i 0) oM (y.get i);exact lI 18 ((64*(i:Nat))+(Lib.ctz 64 (l.getD i 0):Nat)) (lL a ac (ae a [] (iV ((64*(i:Nat))+(Lib.ctz 64 (l.getD i 0):Nat))) (⟨_,_,rfl,Tz.word (by rw[inv,d5 _ o]) p j,by omega⟩)))
 have e:=eq_of_beq d;refine lB 8 d (ar (cK (kZ (kQ (lL a ac (bA 10 ((i:Nat)+1) (i+1) ?_))))));refine lL a ac (lD ?_);intro L F;refine ⟨_,_,?_,⟨i+1,D,rfl,rfl,a.to _ _,oM,(tm o oM inv)⟩,F.to _ kR⟩
 omega
theorem Av (A:Z9)(c:Nat)(l:List Nat)(n:Nat)(H:l.length=n)(D:l.length<=1099511627776)(I:l.length<=c)(w:World)(h:Hp)(g:G w h)(B:SlO 1 ag 0 h A l):CV 142 #[.slice A n c] w h (.slice A (tl l n) c):=by
 have a:=((sS g).aS B);refine go Tryz.func142 [(0,qS A n c)] rfl (aa a ac (af (kZ ?_)));refine bS _ (CG.loop (fun o Γ x=>∃ (m:Nat)(j:Hp),o=m/\Γ=[(2,sZ),(0,qS A m c)]/\SS w h x j [] [] [fun j=>SlO 1 ag 0 j A l]/\m<=n/\tl l n=tl l m) _ ⟨n,h,rfl,rfl,a.to _ _,nR _,rfl⟩ ?_);rintro _ _ w1 ⟨m,y,u,rfl,a,C,p⟩;refine cQ (aa a [.c,.v (nV m)] ?_);cases d:(decide ((0:Int)<(m:Int)))
 .
  have e:=oF d;refine lB 5 d (lL a ac (lG 7 ?_));refine lG 8 (lG 9 (lG 10 (lG 11 (lG 12 (lG 13 (lL a [.v qF] (aj (CG.exit ?_))))))))
  show CG _ _ _ _ _ _ _ _
  exact aa a aF (ae a [] (qS A m c) (by rw[p,k6 oM]))
 have e:=oT d;refine lB 5 d (lL a [.c,.c,.c,.v (nV m)] (bA 10 ((m:Nat)-1) (m-1) ?_));refine lX 11 A m c 1 (m-1:Nat) (m-1) ((a.f.1).ok oM) (lH 12 (mV (l.getD (m-1) 0)) a ((a.f.1).el (m-1) oM) ?_);cases b:(((l.getD (m-1) 0:Nat):Int) == (0:Int))
 .
  have i:=aq b;refine lB 13 b (lL a [.v qF] (aj (CG.exit ?_)))
  show CG _ _ _ _ _ _ _ _
  exact aa a aF (ae a [] (qS A m c) (by rw[p,k6 oM]))
 have i:=eq_of_beq b;refine lB 13 b (lL a [.v qT] (ar (cK (kZ (kQ (lL a [.c,.c,.v (nV m)] (bA 18 ((m:Nat)-1) (m-1) ?_)))))));refine lT 19 A m c 1 (m-1:Nat) (m-1) (lL a ac (lD ?_));intro F z;refine ⟨_,_,?_,⟨m-1,y,rfl,rfl,a.to _ _,oM,(by rw[p];exact uM oM oM)⟩,z.to _ kR⟩
 omega
theorem tT (A:Z9)(c:Nat)(D:Z9)(d:Nat)(x y n e:Nat)(hn:(wds x).length=n)(W:(wds y).length=e)(L:(wds x).length<=1000000000)(I:(wds y).length<=1000000000)(w:World)(h:Hp)(g:G w h)(K:SlO 1 ag 0 h A (wds x))(O:SlO 1 ag 0 h D (wds y)):CV 110 #[.slice A n c,.slice D e d] w h (iV (bG x y)):=by
 have a:=(((sS g).aS K).aS O);refine go Tryz.func110 [(0,qS A n c),(1,qS D e d)] rfl (aa a ac (af (aa a [.c,.v (nV n),.c,.v (nV e)] ?_)));cases l:((n:Int) != (e:Int))
 .
  have u:=aJ l;refine lB 10 l (aj (cK (cQ (aa a [.c,.v (nV n)] (lV 18 (iV ((n:Int)-1)) ?_ (hr:=rS (((n:Nat)-1)) kR ((fD oM oM).trans oM)))))));refine lL a ac (ba ?_);refine bS _ (CG.loop (fun H Γ M=>∃ (m:Nat)(B:Hp),H=m/\Γ=[(0,qS A n c),(1,qS D e d),(5,iV ((m:Int)-1))]/\SS w h M B [] [] [fun B=>SlO 1 ag 0 B D (wds y),fun B=>SlO 1 ag 0 B A (wds x)]/\m<=n/\(wds x).length=(wds y).length/\(wds x).drop m=(wds y).drop m) _ ⟨n,h,rfl,rfl,a.to _ _,nR _,oM,(by rw[yC oM,yC oM])⟩ ?_);rintro _ _ w2 ⟨m,Z,U,rfl,a,X,b,i⟩;refine cQ (aa a ac ?_);cases j:(decide ((0:Int)<=((m:Int)-1:Int)))
  .
   have z:=oF j;refine lB 20 j (aj (CG.exit ?_))
   show CG _ _ _ _ _ _ _ _
   exact aa a ac (ae a [] (iV 0) (by rw[f4 (Bb (by rw[show m=0 by omega] at i;simpa using i))]))
  have z:=oT j;refine lB 20 j (ar (cK (cQ (kZ (cQ (cR 9 [] mixed a am ?_))))));refine eV 0 23 (qS A n c) (eV 1 24 (iV ((m:Int)-1)) (eX 2 25 A n c 1 ((m:Int)-1) (m-1) ((a.f.2.1).ok oM) (eH 3 26 (mV ((wds x).getD (m-1) 0)) a ((a.f.2.1).el (m-1) oM) (eV 4 27 (qS D e d) (eV 5 28 (iV ((m:Int)-1)) (eX 6 29 D e d 1 ((m:Int)-1) (m-1) ((a.f.1).ok oM) (eH 7 30 (mV ((wds y).getD (m-1) 0)) a ((a.f.1).el (m-1) oM) ?_)))))));cases o:((((wds x).getD (m-1) 0:Nat):Int) != (((wds y).getD (m-1) 0:Nat):Int))
  .
   have p:=aJ o;refine eB 8 31 o (bW a (fun w7 J a=>tN (cG (cK (kQ (lL a ac (lV 22 (iV (((m-1:Nat):Int)-1)) ?_ (hr:=rS ((((m:Int)-1)-1)) kR ((fD oM oM).trans oM)))))))));refine lL a ac (lD ?_);intro Y V;refine ⟨_,_,?_,⟨m-1,J,rfl,rfl,a.to _ _,oM,b,(dY (k:=m-1) b oM (by rw[show m-1+1=m by omega];exact i) oM)⟩,V.to _ kR⟩
   omega
  have p:=aU o;refine eB 8 31 o (bW a (fun _ _ a=>tN (bY (cQ (cQ (cR 9 [] mixed a am ?_))))));refine eV 0 32 (qS A n c) (eV 1 33 (iV ((m:Int)-1)) (eX 2 34 A n c 1 ((m:Int)-1) (m-1) ((a.f.2.1).ok oM) (eH 3 35 (mV ((wds x).getD (m-1) 0)) a ((a.f.2.1).el (m-1) oM) (eV 4 36 (qS D e d) (eV 5 37 (iV ((m:Int)-1)) (eX 6 38 D e d 1 ((m:Int)-1) (m-1) ((a.f.1).ok oM) (eH 7 39 (mV ((wds y).getD (m-1) 0)) a ((a.f.1).el (m-1) oM) ?_)))))));cases F:(decide ((((wds x).getD (m-1) 0:Nat):Int)<(((wds y).getD (m-1) 0:Nat):Int)))
  .
   have Q:=oF F;exact eB 8 40 F (bW a (fun _ _ a=>tN (cG (cK (aa a ac (ae a [] (iV 1) (by rw[<-jq (k:=m-1) b oM (by rw[show m-1+1=m by omega];exact i) oM,dW oM])))))))
  have Q:=oT F;exact eB 8 40 F (bW a (fun _ _ a=>tN (bY (aa a ac (ae a [] (iV (-1)) (by rw[<-jq (k:=m-1) b oM (by rw[show m-1+1=m by omega];exact i) oM,cW oM]))))))
 have u:=aU l;refine lB 10 l (ar (cQ (aa a [.c,.v (nV n),.c,.v (nV e)] ?_)));cases C:(decide ((n:Int)<(e:Int)))
 .
  have S:=oF C;exact lB 15 C (aj (cK (aa a ac (ae a [] (iV 1) (by rw[dW (eL oM)])))))
 have S:=oT C;exact lB 15 C (ar (aa a ac (ae a [] (iV (-1)) (by rw[cW (eL oM)]))))
theorem uR (n:Nat)(hn:0<n)(hl:(wds n).length<=1000000000)(w:World)(h:Hp)(g:G w h):CR 107 #[nv n] w h (fun v h1=>wl h h1 v (wds n)):=by
 have e:=sS g;have hnb:=jK n;have hwl:=jW n;have hbl:=hC n ((nb n+7)/8);have X:=(bR hn).2.2;refine go Tryz.func107 [(0,nv n)] rfl (aD (lA 1 35 (nc n) e (fun J w2 h3 e=>lL e ac (aK (lL e [.o (nv n) 0 0 2] (lC 7 e (tc n hl _ _ e.g) ?_))))));rintro _ w4 h5 e ⟨p,rfl,Z⟩;replace e:=e.aS Z;refine lL e ac (aK (lL e [.c,.v (nV ((nb n+7)/8))] (bA 10 ((((nb n+7)/8):Nat)+7) ((((nb n+7)/8):Nat)+7) ?_)));refine lV 11 (nV (((((nb n+7)/8):Nat)+7:Nat)/8)) ?_ (hr:=aY (db (t:=3) (u:=3) (x:=.tmp 10) (y:=.const (iV 8)) (k:=.i64) (a:=(((((nb n+7)/8):Nat)+7:Nat):Int)) (b:=(8:Int)) kR kR kR oM _) (cM ((((nb n+7)/8):Nat)+7:Nat) 8 oM));refine lK 12 33 (((((nb n+7)/8):Nat)+7:Nat)/8:Nat) 1 8 (uV 0) ag 0 e (fun j w7 Y e=>?_);have K:(yJ (((((nb n+7)/8):Nat)+7:Nat)/8:Nat) 0).length=(((((nb n+7)/8):Nat)+7:Nat)/8:Nat):=by simp
 refine lL e ac (af (aa e [.c,.v (nV ((nb n+7)/8)),.c] (ba ?_)));refine bS _ (CG.loop (fun U Γ w_=>∃ (i:Nat)(l:List Nat)(S:Hp),U=((nb n+7)/8)-i/\Γ=[(2,sZ),(3,qS p ((nb n+7)/8) ((nb n+7)/8)),(4,qS (sB j) (((((nb n+7)/8):Nat)+7:Nat)/8:Nat) (((((nb n+7)/8):Nat)+7:Nat)/8:Nat)),(14,nV ((nb n+7)/8)),(15,nV i)]/\SS w h w_ S [⟨j,33,(l).flatMap ag⟩,⟨J,35,nc n⟩] [] [fun S=>SlO 1 kp 0 S p (eg n ((nb n+7)/8))]/\i<=((nb n+7)/8)/\l.length=(((nb n+7)/8)+7)/8/\Wd l/\ax l=n%256^i) _ ⟨0,yJ (((((nb n+7)/8):Nat)+7:Nat)/8:Nat) 0,Y,rfl,rfl,e.to _ _,GA _,K,Wd.rep _,(by show ah _ _=_;rw[ee,Gy,Nat.mod_one])⟩ ?_);rintro _ _ _ ⟨i,l,_,W,rfl,e,hi,C,I,inv⟩;have hbi:=iz n ((nb n+7)/8) (((nb n+7)/8)-1-i);refine aD ?_;cases F:(decide ((i:Int)<((((nb n+7)/8):Nat):Int)))
 .
  have zb:=oF F;refine lB 16 F (af (cG (CG.exit ?_)))
  show CG _ _ _ _ _ _ _ _
  refine aa e aF (lN (kX ?_));have M:i=((nb n+7)/8):=by omega
  have V:ax l=n:=by rw[inv,M];exact yL (r8 n)
  have O:l=wds n:=by rw[<-V];exact (sL I (by rw[C,V];omega)).symm
  rw[O] at e
  obtain ⟨_,e,B,D,z⟩:=e.pub 0;replace e:=(e.to [⟨J,35,nc n⟩] []).aS (SlO.of_flat (sz:=1) (f:=ag) (d:=0) (b:=j) (o:=0) (l:=wds n) (fun _=>rfl) B);exact e.ret [] (qS (sB j) (((((nb n+7)/8):Nat)+7:Nat)/8:Nat) (((((nb n+7)/8):Nat)+7:Nat)/8:Nat)) (⟨j,(by rw[show (((nb n+7)/8)+7)/8=(wds n).length by omega]),D,z,e.f.1⟩)
 have zb:=oT F;refine lB 16 F (af (bY (cK (cQ (kZ (aa e aF (lN (cR 19 [] mixed e am ?_))))))));refine eV 0 18 (qS (sB j) (((((nb n+7)/8):Nat)+7:Nat)/8:Nat) (((((nb n+7)/8):Nat)+7:Nat)/8:Nat)) (eV 1 19 (nV i) (eV 2 20 (nV (i/8)) ?_ (hv:=fun _=>aY (db (t:=3) (u:=3) (x:=.tmp 19) (y:=.const (iV 8)) (k:=.i64) (a:=(i:Int)) (b:=(8:Int)) kR kR kR oM _) (cM i 8 oM))));refine eX 3 21 (sB j) (((((nb n+7)/8):Nat)+7:Nat)/8:Nat) (((((nb n+7)/8):Nat)+7:Nat)/8:Nat) 1 (i/8:Nat) (i/8) rfl (eQ 4 22 0 l ag 1 0 (i/8) (mV ((l).getD (i/8) 0)) e oM (eV 5 23 (qS p ((nb n+7)/8) ((nb n+7)/8)) (eV 6 24 (qS p ((nb n+7)/8) ((nb n+7)/8)) (eV 7 25 (nV ((nb n+7)/8)) (km 8 26 ((((nb n+7)/8):Nat)-1) ((((nb n+7)/8):Nat)-1) (eV 9 27 (nV i) (km 10 28 (((((nb n+7)/8):Nat)-1:Nat)-(i:Nat)) (((((nb n+7)/8):Nat)-1:Nat)-i) (eX 11 29 p ((nb n+7)/8) ((nb n+7)/8) 1 (((((nb n+7)/8):Nat)-1:Nat)-i:Nat) (((((nb n+7)/8):Nat)-1:Nat)-i:Nat) ((e.f.1).ok oM) (eH 12 30 (.int .u8 ((eg n ((nb n+7)/8)).getD (((((nb n+7)/8):Nat)-1:Nat)-i:Nat) 0:Nat)) e ((e.f.1).el (((((nb n+7)/8):Nat)-1:Nat)-i:Nat) oM) (eV 13 31 (mV ((eg n ((nb n+7)/8)).getD (((((nb n+7)/8):Nat)-1:Nat)-i:Nat) 0)) ?_ (hv:=fun _=>rU ((((eg n ((nb n+7)/8)).getD (((((nb n+7)/8):Nat)-1:Nat)-i:Nat) 0:Nat):Int)) kR (bD oM oM))))))))))));refine eV 14 32 (nV i) (eV 15 33 (nV (i%8)) ?_ (hv:=fun _=>aY (eT (t:=3) (u:=3) (x:=.tmp 32) (y:=.const (iV 8)) (k:=.i64) (a:=(i:Int)) (b:=(8:Int)) kR kR kR oM _) (cX i 8)));refine km 16 34 (8*(i%8:Nat)) (8*(i%8)) (eV 17 35 (mV (((eg n ((nb n+7)/8)).getD (((((nb n+7)/8):Nat)-1:Nat)-i:Nat) 0:Nat)*2^(8*(i%8))%18446744073709551616)) ?_ (hv:=fun _=>fy (t:=33) (u:=3) (x:=.tmp 31) (y:=.tmp 34) (ky:=.i64) (a:=((eg n ((nb n+7)/8)).getD (((((nb n+7)/8):Nat)-1:Nat)-i:Nat) 0:Nat)) (n:=(8*(i%8))) kR kR kR _));obtain ⟨L,H,Q⟩:=pI oM inv (show (eg n ((nb n+7)/8)).getD (((nb n+7)/8)-1-i) 0=n/256^i%256 by rw[gj n ((nb n+7)/8) _ oM,show ((nb n+7)/8)-1-(((nb n+7)/8)-1-i)=i by omega]);have hlg:=I.get (i/8);refine eV 18 36 (mV (l.getD (i/8) 0+(eg n ((nb n+7)/8)).getD (((nb n+7)/8)-1-i) 0*2^(8*(i%8)))) ?_ (hv:=fun _=>aY (im (t:=33) (u:=33) (x:=.tmp 22) (y:=.tmp 35) (a:=((l).getD (i/8) 0)) (b:=(((eg n ((nb n+7)/8)).getD (((((nb n+7)/8):Nat)-1:Nat)-i:Nat) 0:Nat)*2^(8*(i%8))%18446744073709551616:Nat)) kR kR kR oM oM _) (by rw[L]));refine bW e (fun _ zd e=>tX 19 37 (sB j) (((((nb n+7)/8):Nat)+7:Nat)/8:Nat) (((((nb n+7)/8):Nat)+7:Nat)/8:Nat) 1 (i/8:Nat) (i/8) rfl (tW 20 0 l ag 1 (i/8) (l.getD (i/8) 0+(eg n ((nb n+7)/8)).getD (((nb n+7)/8)-1-i) 0*2^(8*(i%8)):Nat) e oM (fun _ e=>?_)));have zc:((l).set (i/8) (l.getD (i/8) 0+(eg n ((nb n+7)/8)).getD (((nb n+7)/8)-1-i) 0*2^(8*(i%8)):Nat)).length=(((((nb n+7)/8):Nat)+7:Nat)/8:Nat):=by rw[Gq];exact C
 replace e:=e.to [⟨j,33,((l).set (i/8) (l.getD (i/8) 0+(eg n ((nb n+7)/8)).getD (((nb n+7)/8)-1-i) 0*2^(8*(i%8)):Nat)).flatMap ag⟩,⟨J,35,nc n⟩] [];refine tN (kQ (bA 38 ((i:Nat)+1) (i+1) ?_));refine lL e ac (lD ?_);intro a_ ka;refine ⟨_,_,?_,⟨i+1,(l).set (i/8) (l.getD (i/8) 0+(eg n ((nb n+7)/8)).getD (((nb n+7)/8)-1-i) 0*2^(8*(i%8)):Nat),zd,rfl,rfl,e.to _ _,oM,zc,(I.set _ H),Q⟩,ka.to _ kR⟩
 omega
theorem vK (A:Z9)(c:Nat)(l:List Nat)(n:Nat)(Y:l.length=n)(I:Wd l)(hl:l.length<=1000000000)(w:World)(h:Hp)(g:G w h)(hA:SlO 1 ag 0 h A l):CV 112 #[.slice A n c] w h (nv (ax l)):=by
 have e:=((sS g).aS hA);refine go Tryz.func112 [(0,qS A n c)] rfl (aD (lA 2 35 ([uV 0,eS]) e (fun D w2 h3 e=>aK (lL e [.c,.v (nV n)] (bA 7 (8*(n:Nat)) (8*n) ?_)))));refine lK 8 5 (8*n) 1 1 (.int .u8 0) kp 0 e (fun B w5 h6 e=>?_);have J:(yJ (8*n) 0).length=(8*n):=by simp
 refine lL e ac (af (aa e [.c,.v (nV (8*n)),.c] (ba ?_)));refine bS _ (CG.loop (fun L Γ V=>∃ (i:Nat)(z:List Nat)(K:Hp),L=8*n-i/\Γ=[(0,qS A n c),(2,pB D),(3,qS (sB B) (8*n) (8*n)),(10,nV (8*n)),(11,nV i)]/\SS w h V K [⟨B,5,(z).flatMap kp⟩,⟨D,35,[uV 0,eS]⟩] [] [fun K=>SlO 1 ag 0 K A l]/\i<=8*n/\z.length=8*n/\(∀ j,j<i->z.getD (8*n-1-j) 0=ax l/256^j%256)) _ ⟨0,yJ (8*n) 0,h6,rfl,rfl,e.to _ _,GA _,J,(fun j S=>absurd S oM)⟩ ?_);rintro _ _ w8 ⟨i,z,h9,U,rfl,e,hi,p,O⟩;have hwi:=I.get (i/8);refine aD ?_;cases F:(decide ((i:Int)<(((8*n):Nat):Int)))
 .
  have W:=oF F;refine lB 12 F (af (cG (CG.exit ?_)))
  show CG _ _ _ _ _ _ _ _
  refine aa e ac ?_;have X:i=8*n:=by omega
  have H:z=eg (ax l) (8*n):=o3 p (fun j S=>O j oM);rw[H] at e
  obtain ⟨_,e,C,M,Q⟩:=e.pub 0;replace e:=(e.to [⟨D,35,[uV 0,eS]⟩] []).aS (SlO.of_flat (sz:=1) (f:=kp) (d:=0) (b:=B) (o:=0) (l:=eg (ax l) (8*n)) (fun _=>rfl) C);exact ao 33 e (ui (ax l) (8*n) (sB B) (8*n) oM oM (by have:=Fd I;rwa [Y] at this) _ _ e.g e.f.1) (fun _ _ e=>lP 0 0 (nc (ax l)) e (fun _ e=>ae e [(0,0,2)] (nv (ax l)) rfl))
 have W:=oT F;refine lB 12 F (af (bY (cK (cQ (kZ (aa e aF (lN (kQ (lL e [.c,.c,.v (nV (8*n))] (bA 17 (((8*n):Nat)-1) ((8*n)-1) ?_))))))))));refine lL e ac (bA 19 (((8*n)-1:Nat)-(i:Nat)) (((8*n)-1)-i) ?_);refine lL e aF (lV 22 (nV (i/8)) ?_ (hr:=aY (db (t:=3) (u:=3) (x:=.tmp 21) (y:=.const (iV 8)) (k:=.i64) (a:=(i:Int)) (b:=(8:Int)) kR kR kR oM _) (cM i 8 oM)));refine lX 23 A n c 1 (i/8:Nat) (i/8) ((e.f.1).ok oM) (lH 24 (mV (l.getD (i/8) 0)) e ((e.f.1).el (i/8) oM) (lL e ac (lV 26 (nV (i%8)) ?_ (hr:=aY (eT (t:=3) (u:=3) (x:=.tmp 25) (y:=.const (iV 8)) (k:=.i64) (a:=(i:Int)) (b:=(8:Int)) kR kR kR oM _) (cX i 8)))));refine bA 27 (8*(i%8:Nat)) (8*(i%8)) (lV 28 (mV ((l.getD (i/8) 0)/2^(8*(i%8)))) ?_ (hr:=fA (t:=33) (u:=3) (x:=.tmp 24) (y:=.tmp 27) (ky:=.i64) (a:=(l.getD (i/8) 0)) (n:=(8*(i%8))) kR kR kR oM _));refine lV 29 (.int .u8 (l.getD (i/8) 0/2^(8*(i%8))%256:Nat)) ?_ (hr:=aY (n:=IntKind.wrap .u8 ((l.getD (i/8) 0/2^(8*(i%8)):Nat):Int)) kR (vJ _));refine lX 30 (sB B) (8*n) (8*n) 1 (((8*n)-1)-i:Nat) (((8*n)-1)-i:Nat) rfl (lW 0 z kp 1 (((8*n)-1)-i:Nat) (l.getD (i/8) 0/2^(8*(i%8))%256:Nat) e oM (fun _ e=>?_));have Z:((z).set (((8*n)-1)-i:Nat) (l.getD (i/8) 0/2^(8*(i%8))%256:Nat)).length=(8*n):=by rw[Gq];exact p
 replace e:=e.to [⟨B,5,((z).set (((8*n)-1)-i:Nat) (l.getD (i/8) 0/2^(8*(i%8))%256:Nat)).flatMap kp⟩,⟨D,35,[uV 0,eS]⟩] [];refine lN (kQ (bA 31 ((i:Nat)+1) (i+1) ?_));refine lL e ac (lD ?_);intro a_ ka;refine ⟨_,_,?_,⟨i+1,(z).set (((8*n)-1)-i:Nat) (l.getD (i/8) 0/2^(8*(i%8))%256:Nat),h9,rfl,rfl,e.to _ _,oM,Z,(fu p oM O (ny I i))⟩,ka.to _ kR⟩
 omega
def win (l:List Nat)(o n:Nat):List Nat:=(l.drop o).take n
theorem bw {l:List Nat}{o n:Nat}(h:o+n<=l.length):(win l o n).length=n:=by unfold win;rw[y9,zy];omega
theorem qh {l:List Nat}{o n j:Nat}(h:j<n):(win l o n).getD j 0=l.getD (o+j) 0:=by unfold win;rw[gN h,br]
theorem jp {l:List Nat}{o n i x:Nat}(hi:i<n):win (l.set (o+i) x) o n=(win l o n).set i x:=by
 unfold win
 rw[List.drop_set,if_neg oM,GS,show o+i-o=i by omega]
theorem u5 {l:List Nat}{o n q:Nat}:(win l o n).drop q=win l (o+q) (n-q):=by
 unfold win;rw[List.drop_take,List.drop_drop]
theorem nk {l:List Nat}{o n m:Nat}(h:m<=n):(win l o n).take m=win l o m:=by
 unfold win;rw[List.take_take,Ag h]
theorem o7 (l:List Nat)(n:Nat)(h:l.length<=n):win l 0 n=l:=by unfold win;rw[yu,Ft h]
theorem Wd.win {l:List Nat}(h:Wd l)(o n:Nat):Wd (win l o n):=Dg.take (Dg.drop h o) n
theorem ph {Z W:List Nat}{i p d a:Nat}(hi:i<Z.length)(inv:2^p*ah 18446744073709551616 (Z.take i)+a=ah 18446744073709551616 (W.take i)+18446744073709551616^i*(W.getD i 0%2^p))
  (f:2^p*d+W.getD i 0%2^p=W.getD i 0+18446744073709551616*(W.getD (i+1) 0%2^p)) :
  2^p*ah 18446744073709551616 ((Z.set i d).take (i+1))+a=ah 18446744073709551616 (W.take (i+1))+18446744073709551616^(i+1)*(W.getD (i+1) 0%2^p):=by
 have e1:=ay 18446744073709551616 (Z.set i d) i;have e2:(Z.set i d).take i=Z.take i:=by rw[GS,List.set_eq_of_length_le];rw[y9];omega
 rw[e2,bv hi,if_pos rfl] at e1
 have b:=ay 18446744073709551616 W i;have h:=congrArg (18446744073709551616^i * ·) f
 simp only[z8] at h
 rw[e1,b,z6,z8];have c:2^p*(18446744073709551616^i*d)=18446744073709551616^i*(2^p*d):=by ac_rfl
 have e:18446744073709551616^i*18446744073709551616*(W.getD (i+1) 0%2^p)=18446744073709551616^i*(18446744073709551616*(W.getD (i+1) 0%2^p)):=by ac_rfl
 rw[c,e]
 omega
theorem uA {X:List Nat}(d:Wd X){k m:Nat}(t:Tz (ax X) k m)(hk:k/64<X.length):ax (X.drop (k/64))=2^(k%64)*m/\(X.drop (k/64)).getD 0 0%2^(k%64)=0:=by
 have h1:ax (X.drop (k/64))=2^(k%64)*m:=by
  rw[kK d oM,t.1,uQ k,Ab,GT _ (Nat.pow_pos kD)]
 refine ⟨h1,?_⟩
 have c:ax (X.drop (k/64))=(X.drop (k/64)).getD 0 0+18446744073709551616*ah 18446744073709551616 ((X.drop (k/64)).drop 1):=by
  have:=d5 18446744073709551616 (l:=X.drop (k/64)) (k:=0) (by rw[zy];omega)
  rwa [yu] at this
 have b:(18446744073709551616:Nat)=2^(k%64)*2^(64-k%64):=by rw[<-A4,show k%64+(64-k%64)=64 by omega]
 rw[h1] at c
 have a:(2^(k%64)*m)%2^(k%64)=0:=Nat.mul_mod_right _ _;rw[c] at a
 conv at a=>lhs;rw[b]
 rw[Ab,Nat.add_mul_mod_self_left] at a
 exact a
theorem BB {Z W:List Nat}{p m:Nat}(a:W.length<=Z.length)(inv:2^p*ah 18446744073709551616 (Z.take Z.length)+0=ah 18446744073709551616 (W.take Z.length)+18446744073709551616^Z.length*(W.getD Z.length 0%2^p))(e:ax W=2^p*m):ax Z=m:=by
 rw[yw,Ft a,bP a,Gs,Ah,yt,yt] at inv
 have e2:ah 18446744073709551616 W=2^p*m:=e;rw[e2] at inv
 exact GO (As p) inv
theorem n3 {l X:List Nat}{q i x N:Nat}(a:q+i<l.length)(h:∀ j,i<=j->j<N->l.getD (q+j) 0=X.getD j 0):∀ j,i+1<=j->j<N->(l.set (q+i) x).getD (q+j) 0=X.getD j 0:=fun j h1 b=>by
 rw[bv a,if_neg oM];exact h j oM b
theorem o9 (rb:Nat)(C:List Nat)(o n c x:Nat)(hx:0<x)(hl0:C.length<=1000000000)(F:o+n<=C.length)(hnc:n<=c)(D:Wd C)(J:win C o n=wds x)(w:World)(h:Hp)(g:G w h)(ho:Own w rb 33 (C.flatMap ag))(S:h[rb]?=some a6)(tb:Tab h):Calls Tryz.prog 109 #[.slice (some ⟨rb,o,none⟩) n c] w (dr rb w h fun v w' _=>∃ z:List Nat,∃ o' n' c':Nat,v=.slice (some ⟨rb,o',none⟩) n' c'/\z.length=C.length/\Wd z/\o'+n'<=z.length/\n'<=c'/\(∃ k m:Nat,Tz x k m/\win z o' n'=wds m)/\Own w' rb 33 (z.flatMap ag)):=by
 have B:UpM [rb] w h w h:=UpM.refl g;obtain ⟨wz,hz,e⟩:=SS.at_ g ho S;have bb:C.length=C.length:=rfl;replace e:=(e.aB tb);refine go Tryz.func109 [(0,qS (some ⟨rb,o,none⟩) n c)] rfl (aa e ac (aK (lL e ac (wq 7 0 e (fun _ g_ f_ K=>oE (some ⟨rb,o,none⟩) c (win C o n) n (bw F) (D.win _ _) (by rw[J,aI];exact hx) (by rw[bw F];omega) _ _ g_ (f_.1) (SlO.win (f:=ag) (d:=0) (b:=rb) (l:=C) (fun _=>rfl) K o n)) ?_))));rintro _ w1 h2 u3 e ⟨k,m,rfl,L,hkn⟩;replace B:=B.trans (u3.m _);rw[bw F] at hkn
 have hX:=D.win o n;obtain ⟨M,O⟩:=uA hX L (by rw[bw F];omega);rw[u5] at M O
 obtain ⟨X,hXd⟩:∃ X,X=win C (o+k/64) (n-k/64):=⟨_,rfl⟩;rw[<-hXd] at M O
 have hXl:X.length=n-k/64:=by rw[hXd];exact bw oM
 have hXW:Wd X:=by rw[hXd];exact D.win _ _
 have hXg:∀ j,j<n-k/64->X.getD j 0=C.getD (o+k/64+j) 0:=fun j S=>by rw[hXd];exact qh S
 refine lL e ac (aK (lL e aF (lV 10 (nV (k/64)) ?_ (hr:=aY (db (t:=3) (u:=3) (x:=.tmp 9) (y:=.const (iV 64)) (k:=.i64) (a:=(k:Int)) (b:=(64:Int)) kR kR kR oM _) (cM k 64 oM)))));refine FN 11 rb o n c 1 (k/64:Nat) (k/64) (o+(k/64)) (lL e ac (aK (lL e ac (lV 13 (nV (k%64)) ?_ (hr:=aY (eT (t:=3) (u:=3) (x:=.tmp 12) (y:=.const (iV 64)) (k:=.i64) (a:=(k:Int)) (b:=(64:Int)) kR kR kR oM _) (cX k 64))))));refine lL e ac (af (aa e [.c,.v (nV (n-(k/64))),.c] (ba ?_)));refine bS _ (CG.loop (fun μ_ Γ w_=>∃ (i:Nat)(l:List Nat)(h_:Hp),μ_=(n-k/64)-i/\Γ=[(0,qS (some ⟨rb,(o+(k/64)),none⟩) (n-(k/64)) (c-(k/64))),(2,sZ),(4,nV (k%64)),(15,nV (n-(k/64))),(16,nV i)]/\SS wz hz w_ h_ [⟨rb,33,(l).flatMap ag⟩] [] [fun h_=>Tab h_]/\i<=n-k/64/\l.length=C.length/\Wd l/\2^(k%64)*ah 18446744073709551616 ((win l (o+k/64) (n-k/64)).take i)+0=ah 18446744073709551616 (X.take i)+18446744073709551616^i*(X.getD i 0%2^(k%64))/\(∀ j,i<=j->j<n-k/64->l.getD (o+k/64+j) 0=X.getD j 0)/\UpM [rb] w h w_ h_) _ ⟨0,C,h2,rfl,rfl,e.to _ _,GA _,rfl,D,(by rw[O];simp[ah]),(fun j _ S=>(hXg j S).symm),B⟩ ?_);rintro _ _ w4 ⟨i,l,h5,hm6,rfl,e,hi,Y,W,inv,H,B⟩;refine aD ?_;cases I:(decide ((i:Int)<((n-(k/64):Nat):Int)))
 .
  have V:=oF I;refine lB 17 I (af (cG (CG.exit ?_)))
  show CG _ _ _ _ _ _ _ _
  refine aa e ac (wq 47 0 e (fun _ g_ f_ K=>Av (some ⟨rb,(o+k/64),none⟩) (c-(k/64)) (win l (o+k/64) (n-k/64)) (n-k/64) (bw oM) (by rw[bw oM];omega) (by rw[bw oM];omega) _ _ g_ (SlO.win (f:=ag) (d:=0) (b:=rb) (l:=l) (fun _=>rfl) K (o+k/64) (n-k/64))) ?_);rintro _ w8 h9 u10 e rfl;replace B:=B.trans (u10.m _);refine lL e ac (lN (kX ?_));have hiN:i=n-k/64:=by omega
  have Q:(win l (o+k/64) (n-k/64)).length=n-k/64:=bw oM;have hE:=BB (Z:=win l (o+k/64) (n-k/64)) oM (by rw[Q,<-hiN];rw[<-hiN] at inv;exact inv) M;have hZW:Wd (win l (o+k/64) (n-k/64)):=W.win _ _;have U:=lr hZW;rw[hE,Q] at U
  have htl:=gA (win l (o+k/64) (n-k/64)) (n-k/64);exact e.retM B [] (qS (some ⟨rb,(o+k/64),none⟩) (tl (win l (o+k/64) (n-k/64)) (n-k/64)) (c-(k/64))) ⟨l,(o+k/64),_,_,rfl,Y,W,by omega,by omega,⟨k,m,by rw[J,aI] at L;exact L,by rw[U];exact (nk htl).symm⟩,e.own 0⟩
 have V:=oT I;refine lB 17 I (af (bY (cK (cQ (kZ (aa e aF (aK (lL e aF (CY 21 rb (o+(k/64)) (n-(k/64)) (c-(k/64)) 1 (i:Nat) i ((o+(k/64))+i) ?_)))))))));refine lQ 22 0 l ag 1 0 ((o+(k/64))+i) (mV ((l).getD ((o+(k/64))+i) 0)) e oM (lL e ac ?_);have hXi:X.getD i 0=l.getD (o+k/64+i) 0:=(H i (nR _) oM).symm;have hxi:=W.get (o+k/64+i);have hdv:=zY (l.getD (o+k/64+i) 0) (2^(k%64));refine lV 24 (mV (((l).getD ((o+(k/64))+i) 0:Nat)/2^(k%64))) ?_ (hr:=fA (t:=33) (u:=3) (x:=.tmp 22) (y:=.tmp 23) (ky:=.i64) (a:=((l).getD ((o+(k/64))+i) 0:Nat)) (n:=(k%64)) kR kR kR oM _);refine CY 25 rb (o+(k/64)) (n-(k/64)) (c-(k/64)) 1 (i:Nat) i ((o+(k/64))+i) (EH 0 l ag 1 ((o+(k/64))+i) (((l).getD ((o+(k/64))+i) 0:Nat)/2^(k%64):Nat) e oM (fun _ pu e=>?_));replace B:=B.put pu (ul.2 rfl) e.g;have zb:((l).set ((o+(k/64))+i) (((l).getD ((o+(k/64))+i) 0:Nat)/2^(k%64):Nat)).length=C.length:=by rw[Gq];exact Y
 replace e:=e.to [⟨rb,33,((l).set ((o+(k/64))+i) (((l).getD ((o+(k/64))+i) 0:Nat)/2^(k%64):Nat)).flatMap ag⟩] [];refine aK (lL e ac (bA 27 ((i:Nat)+1) (i+1) ?_));refine lL e [.c,.v (nV (n-(k/64)))] ?_;cases za:(decide (((i+1:Nat):Int)<((n-(k/64):Nat):Int)))
 .
  have zc:=oF za;refine lB 30 za (aj (cK (kQ (bA 45 ((i:Nat)+1) (i+1) ?_))));refine lL e ac (lD ?_);intro a_ ka;refine ⟨_,_,?_,⟨i+1,(l).set ((o+(k/64))+i) (((l).getD ((o+(k/64))+i) 0:Nat)/2^(k%64):Nat),h5,rfl,rfl,e.to _ _,oM,zb,(W.set _ oM),(by rw[jp oM];exact ph (by rw[bw oM];omega) inv (by rw[hXi,bP (l:=X) (show X.length<=i+1 by omega),Gs,Ah,yt];exact Nat.div_add_mod _ _)),(n3 oM H),B⟩,ka.to _ kR⟩
  omega
 have zc:=oT za;refine lB 30 za (ar (vk ⟨[],none⟩ 13 mixed ?_));replace B:=B.trans ((Up.drew (Up.refl e.g)).m _);replace e:=e.drew;refine aV 0 31 (qS (some ⟨rb,(o+(k/64)),none⟩) (n-(k/64)) (c-(k/64))) (aV 1 32 (nV i) (FC 2 33 rb (o+(k/64)) (n-(k/64)) (c-(k/64)) 1 (i:Nat) i ((o+(k/64))+i) (aQ 3 34 0 ((l).set ((o+(k/64))+i) (((l).getD ((o+(k/64))+i) 0:Nat)/2^(k%64):Nat)) ag 1 0 ((o+(k/64))+i) (mV (((l).set ((o+(k/64))+i) (((l).getD ((o+(k/64))+i) 0:Nat)/2^(k%64):Nat)).getD ((o+(k/64))+i) 0)) e oM (aV 4 35 (qS (some ⟨rb,(o+(k/64)),none⟩) (n-(k/64)) (c-(k/64))) (aV 5 36 (nV i) (aV 6 37 (nV (i+1)) ?_ (hv:=fun _=>rS (((i:Nat)+1)) kR ((fD oM oM).trans oM))))))));refine FC 7 38 rb (o+(k/64)) (n-(k/64)) (c-(k/64)) 1 (i+1:Nat) (i+1) ((o+(k/64))+(i+1)) (aQ 8 39 0 ((l).set ((o+(k/64))+i) (((l).getD ((o+(k/64))+i) 0:Nat)/2^(k%64):Nat)) ag 1 0 ((o+(k/64))+(i+1)) (mV (((l).set ((o+(k/64))+i) (((l).getD ((o+(k/64))+i) 0:Nat)/2^(k%64):Nat)).getD ((o+(k/64))+(i+1)) 0)) e oM (aV 9 40 (nV (k%64)) (aV 10 41 (nV (64-(k%64))) ?_ (hv:=fun _=>rS ((64-(k%64:Nat))) kR ((fD oM oM).trans oM)))));refine aV 11 42 (mV ((((l).set ((o+(k/64))+i) (((l).getD ((o+(k/64))+i) 0:Nat)/2^(k%64):Nat)).getD ((o+(k/64))+(i+1)) 0:Nat)*2^(64-(k%64))%18446744073709551616)) ?_ (hv:=fun _=>fy (t:=33) (u:=3) (x:=.tmp 39) (y:=.tmp 41) (ky:=.i64) (a:=(((l).set ((o+(k/64))+i) (((l).getD ((o+(k/64))+i) 0:Nat)/2^(k%64):Nat)).getD ((o+(k/64))+(i+1)) 0:Nat)) (n:=(64-(k%64))) kR kR kR _);have hXn:X.getD (i+1) 0=l.getD (o+k/64+(i+1)) 0:=(H (i+1) oM oM).symm;obtain ⟨hS1,hS2,hS3⟩:=mI (x:=l.getD (o+k/64+i) 0) (y:=l.getD (o+k/64+(i+1)) 0) (p:=k%64) oM hxi;have hgs:=bv (l:=l) (k:=o+k/64+i) (j:=o+k/64+i) (x:=l.getD (o+k/64+i) 0/2^(k%64)) oM;rw[if_pos rfl] at hgs
 have hgn:=bv (l:=l) (k:=o+k/64+i) (j:=o+k/64+(i+1)) (x:=l.getD (o+k/64+i) 0/2^(k%64)) oM;rw[if_neg oM] at hgn
 refine aV 12 43 (mV (l.getD (o+k/64+i) 0/2^(k%64)+l.getD (o+k/64+(i+1)) 0*2^(64-k%64)%18446744073709551616)) ?_ (hv:=fun _=>aY (im (t:=33) (u:=33) (x:=.tmp 34) (y:=.tmp 42) (a:=(((l).set ((o+(k/64))+i) (((l).getD ((o+(k/64))+i) 0:Nat)/2^(k%64):Nat)).getD ((o+(k/64))+i) 0:Nat)) (b:=((((l).set ((o+(k/64))+i) (((l).getD ((o+(k/64))+i) 0:Nat)/2^(k%64):Nat)).getD ((o+(k/64))+(i+1)) 0:Nat)*2^(64-(k%64))%18446744073709551616:Nat)) kR kR kR oM oM _) (by rw[hgs,hgn,hS1]));refine F3 13 44 rb (o+(k/64)) (n-(k/64)) (c-(k/64)) 1 (i:Nat) i ((o+(k/64))+i) (FM 14 0 ((l).set ((o+(k/64))+i) (((l).getD ((o+(k/64))+i) 0:Nat)/2^(k%64):Nat)) ag 1 ((o+(k/64))+i) (l.getD (o+k/64+i) 0/2^(k%64)+l.getD (o+k/64+(i+1)) 0*2^(64-k%64)%18446744073709551616:Nat) e oM (fun _ pu e=>?_));replace B:=B.put pu (ul.2 rfl) e.g;have zd:(((l).set ((o+(k/64))+i) (((l).getD ((o+(k/64))+i) 0:Nat)/2^(k%64):Nat)).set ((o+(k/64))+i) (l.getD (o+k/64+i) 0/2^(k%64)+l.getD (o+k/64+(i+1)) 0*2^(64-k%64)%18446744073709551616:Nat)).length=C.length:=by rw[Gq];exact zb
 replace e:=e.to [⟨rb,33,(((l).set ((o+(k/64))+i) (((l).getD ((o+(k/64))+i) 0:Nat)/2^(k%64):Nat)).set ((o+(k/64))+i) (l.getD (o+k/64+i) 0/2^(k%64)+l.getD (o+k/64+(i+1)) 0*2^(64-k%64)%18446744073709551616:Nat)).flatMap ag⟩] [];refine tN (kQ (bA 45 ((i:Nat)+1) (i+1) ?_));refine lL e ac (lD ?_);intro a_ ka;refine ⟨_,_,?_,⟨i+1,((l).set ((o+(k/64))+i) (((l).getD ((o+(k/64))+i) 0:Nat)/2^(k%64):Nat)).set ((o+(k/64))+i) (l.getD (o+k/64+i) 0/2^(k%64)+l.getD (o+k/64+(i+1)) 0*2^(64-k%64)%18446744073709551616:Nat),h5,rfl,rfl,e.to _ _,oM,zd,((W.set _ oM).set _ hS2),(by rw[GC,jp oM];exact ph (by rw[bw oM];omega) inv (by rw[hXi,hXn];exact hS3)),(by rw[GC];exact n3 oM H),B⟩,ka.to _ kR⟩
 omega
theorem DO (rb:Nat)(u:List Nat)(o n c x:Nat)(hl0:u.length<=1000000000)(hon:o+n<=u.length)(hnc:n<=c)(hW0:Wd u)(F:win u o n=wds x)(D:Z9)(d y m:Nat)(hm:(wds y).length=m)(hmd:m<=d)(hyx:y<=x)(w:World)(h:Hp)(g:G w h)(ho:Own w rb 33 (u.flatMap ag))(hj:h[rb]?=some a6)(hD:SlO 1 ag 0 h D (wds y)):Calls Tryz.prog 111 #[.slice (some ⟨rb,o,none⟩) n c,.slice D m d] w (dr rb w h fun v w' _=>∃ z:List Nat,∃ o' X c':Nat,v=.slice (some ⟨rb,o',none⟩) X c'/\z.length=u.length/\Wd z/\o'+X<=z.length/\X<=c'/\win z o' X=wds (x-y)/\Own w' rb 33 (z.flatMap ag)):=by
 have e:UpM [rb] w h w h:=UpM.refl g;obtain ⟨wz,hz,a⟩:=SS.at_ g ho hj;have bm:u.length=u.length:=rfl;replace a:=a.aS hD;have hwn:n=(wds x).length:=by rw[<-F,bw hon]
 have hlm:=bV hyx;refine go Tryz.func111 [(0,qS (some ⟨rb,o,none⟩) n c),(1,qS D m d)] rfl (aa a ac (aK (lL a ac (af (aa a [.c,.v (nV n),.c] (ba ?_))))));refine bS _ (CG.loop (fun μ_ Γ w_=>∃ (i:Nat)(l:List Nat)(I:Nat)(Y:Hp),μ_=n-i/\Γ=[(0,qS (some ⟨rb,o,none⟩) n c),(1,qS D m d),(4,sZ),(9,nV n),(10,nV i),(5,mV I)]/\SS wz hz w_ Y [⟨rb,33,(l).flatMap ag⟩] [] [fun Y=>SlO 1 ag 0 Y D (wds y)]/\i<=n/\l.length=u.length/\Wd l/\I<=1/\ah 18446744073709551616 (win l o n)+ah 18446744073709551616 ((wds y).take i)=x+18446744073709551616^i*I/\UpM [rb] w h w_ Y) _ ⟨0,u,0,h,rfl,rfl,a.to _ _,GA _,rfl,hW0,oM,(by have hx_:ah 18446744073709551616 (wds x)=x:=aI x;rw[F,hx_];simp[ah]),e⟩ ?_);rintro _ _ w1 ⟨i,l,I,h2,hm3,rfl,a,hi,H,O,hbo,inv,e⟩;have hlk:=O.get (o+i);have hyk:=(Wd.wds y).get i;have U:=qh (l:=l) (o:=o) (n:=n) (j:=i);refine aD ?_;cases B:(decide ((i:Int)<(n:Int)))
 .
  have S:=oF B;refine lB 11 B (af (cG (CG.exit ?_)))
  show CG _ _ _ _ _ _ _ _
  refine aa a ac (wq 36 0 a (fun _ g_ f_ sg_=>Av (some ⟨rb,o,none⟩) c (win l o n) n (bw oM) (by rw[bw oM];omega) (by rw[bw oM];omega) _ _ g_ (SlO.win (f:=ag) (d:=0) (b:=rb) (l:=l) (fun _=>rfl) sg_ o n)) ?_);rintro _ w5 h6 u7 a rfl;replace e:=e.trans (u7.m _);refine lL a ac (lN (kX ?_));have hiN:i=n:=by omega
  have L:(win l o n).length=n:=bw oM;rw[Ft (show (wds y).length<=i by omega),hiN] at inv
  have V:Wd (win l o n):=O.win _ _;have hE:ax (win l o n)=x-y:=me V (by rw[L];have hb_:ah 18446744073709551616 (wds y)=y:=aI y;rw[hb_] at inv;exact inv) oM hbo;have M:=lr V;rw[hE,L] at M
  have Z:=gA (win l o n) n;exact a.retM e [] (qS (some ⟨rb,o,none⟩) (tl (win l o n) n) c) ⟨l,o,_,_,rfl,H,O,by omega,by omega,(by rw[M];exact (nk Z).symm),a.own 0⟩
 have S:=oT B;refine lB 11 B (af (bY (cK (cQ (kZ (aa a aF (aK (lL a ac (af (aa a [.c,.c,.v (nV m)] ?_))))))))));cases C:(decide ((i:Int)<(m:Int)))
 .
  have Q:=oF C;refine lB 16 C (aj (cK (kQ (lL a m9 (CY 26 rb o n c 1 (i:Nat) i (o+i) ?_)))));refine lQ 27 0 l ag 1 0 (o+i) (mV ((l).getD (o+i) 0)) a oM (lL a aF ?_);obtain ⟨J,za,bn,bd,bb,W⟩:=gR ((l).getD (o+i) 0) 0 I wM wM oM;refine lV 30 (.tuple #[mV J,mV za]) ?_ (hr:=dd kR (W _));refine lL a [.c,.v (mV J),.v (mV za)] (CY 33 rb o n c 1 (i:Nat) i (o+i) ?_);refine EH 0 l ag 1 (o+i) J a oM (fun _ pu a=>?_);replace e:=e.put pu (ul.2 rfl) a.g;have zc:((l).set (o+i) J).length=u.length:=by rw[Gq];exact H
  replace a:=a.to [⟨rb,33,((l).set (o+i) J).flatMap ag⟩] [];refine lL a ac (lN (kQ (bA 34 ((i:Nat)+1) (i+1) ?_)));refine lL a ac (lD ?_);intro a_ ka;refine ⟨_,_,?_,⟨i+1,(l).set (o+i) J,za,h2,rfl,rfl,a.to _ _,oM,zc,(O.set _ oM),oM,(by rw[jp oM];exact fK (by rw[bw oM];omega) inv (by rw[U oM];first|omega|(have hy0:=bP (l:=wds y) (k:=i) oM;omega))),e⟩,ka.to _ kR⟩
  omega
 have Q:=oT C;refine lB 16 C (ar (kQ (lL a aF (lX 19 D m d 1 (i:Nat) i ((a.f.1).ok oM) ?_))));refine lH 20 (mV ((wds y).getD i 0)) a ((a.f.1).el i oM) (lL a ac (lN (kQ (lL a m9 (CY 26 rb o n c 1 (i:Nat) i (o+i) ?_)))));refine lQ 27 0 l ag 1 0 (o+i) (mV ((l).getD (o+i) 0)) a oM (lL a aF ?_);obtain ⟨p,zb,bl,bk,bf,K⟩:=gR ((l).getD (o+i) 0) ((wds y).getD i 0) I wM wM oM;refine lV 30 (.tuple #[mV p,mV zb]) ?_ (hr:=dd kR (K _));refine lL a [.c,.v (mV p),.v (mV zb)] (CY 33 rb o n c 1 (i:Nat) i (o+i) ?_);refine EH 0 l ag 1 (o+i) p a oM (fun _ pu a=>?_);replace e:=e.put pu (ul.2 rfl) a.g;have zd:((l).set (o+i) p).length=u.length:=by rw[Gq];exact H
 replace a:=a.to [⟨rb,33,((l).set (o+i) p).flatMap ag⟩] [];refine lL a ac (lN (kQ (bA 34 ((i:Nat)+1) (i+1) ?_)));refine lL a ac (lD ?_);intro a_ ka;refine ⟨_,_,?_,⟨i+1,(l).set (o+i) p,zb,h2,rfl,rfl,a.to _ _,oM,zd,(O.set _ oM),oM,(by rw[jp oM];exact fK (by rw[bw oM];omega) inv (by rw[U oM];first|omega|(have hy0:=bP (l:=wds y) (k:=i) oM;omega))),e⟩,ka.to _ kR⟩
 omega
theorem Tz.le {n k m:Nat}(t:Tz n k m):m<=n:=by rw[t.1];exact GU m (As k)
theorem jO (a b:Nat):(bG a b=0/\a=b)\/(bG a b = -1/\a<b)\/(bG a b=1/\b<a):=by
 rcases Nat.lt_trichotomy a b with h|h|h
 ·exact .inr (.inl ⟨cW h,h⟩)
 ·exact .inl ⟨f4 h,h⟩
 ·exact .inr (.inr ⟨dW h,h⟩)
theorem rt (A:Z9)(c:Nat)(D:Z9)(d:Nat)(x y n a:Nat)(e b:List Nat)(ex:e=wds x)(u:b=wds y)(p:e.length=n)(f:b.length=a)(l:n<=1000000000)(i:a<=1000000000)(w:World)(h:Hp)(g:G w h)(j:SlO 1 ag 0 h A e)(o:SlO 1 ag 0 h D b):CV 110 #[.slice A n c,.slice D a d] w h (iV (bG x y)):=by
 subst ex u;exact tT A c D d x y n a p f oM oM w h g j o
theorem Dd (A:Z9)(c:Nat)(l:List Nat)(n x:Nat)(ex:l=wds x)(a:l.length=n)(d:n<=1000000000)(w:World)(h:Hp)(g:G w h)(b:SlO 1 ag 0 h A l):CV 112 #[.slice A n c] w h (nv x):=by
 subst ex;have:=vK A c (wds x) n a (Wd.wds x) oM w h g b
 rwa [aI] at this
theorem uq (rb:Nat)(a:List Nat)(o n c x:Nat)(l:a.length<=1000000000)(f:o+n<=a.length)(u:n<=c)(B:Wd a)(b:win a o n=wds x)(D:Z9)(d y m:Nat)(j:List Nat)(J:j=wds y)(C:j.length=m)(i:m<=d)(p:y<=x)(w:World)(h:Hp)(g:G w h)(F:Own w rb 33 (a.flatMap ag))(I:h[rb]?=some a6)(H:SlO 1 ag 0 h D j):Calls Tryz.prog 111 #[.slice (some ⟨rb,o,none⟩) n c,.slice D m d] w (dr rb w h fun v w' _=>∃ z:List Nat,∃ o' e c':Nat,v=.slice (some ⟨rb,o',none⟩) e c'/\z.length=a.length/\Wd z/\o'+e<=z.length/\e<=c'/\win z o' e=wds (x-y)/\Own w' rb 33 (z.flatMap ag)):=by
 subst J;exact DO rb a o n c x l f u B b D d y m C i p w h g F I H
theorem xD (x y:Nat)(hx:0<x)(hy:0<y)(hlx:(wds x).length<=1000000000)(hly:(wds y).length<=1000000000)(w:World)(h:Hp)(g:G w h)(tb:Tab h):CV 72 #[nv x,nv y] w h (nv (GP x y)):=by
 have e:=((sS g).aB tb);have hpx:=hx;have hpy:=hy;refine go Tryz.func72 [(0,nv x),(1,nv y)] rfl (aD (lA 2 35 (nc x) e (fun b1 w2 h3 e=>lA 3 35 (nc y) e (fun b4 w5 h6 e=>lA 4 35 ([uV 0,eS]) e (fun W w8 h9 e=>af ?_)))));obtain ⟨K_,hK_⟩:∃ K_,K_=w8.heap.size:=⟨_,rfl⟩;have hm:W<K_:=by rw[hK_];exact dR e 0
 have bt:b4<K_:=by rw[hK_];exact dR e 1
 have cw:b1<K_:=by rw[hK_];exact dR e 2
 refine vk ⟨[],some (K_,[])⟩ 0 mixed ?_;have h4:=e.g.size;replace e:=e.drew;have X:=GE hK_;refine zO 0 10 [(2,0,2)] (nv x) rfl X e (fun p hp=>by obtain rfl:=ul.1 hp;exact cw) (zO 2 12 [(1,0,2)] (nv y) rfl X e (fun p hp=>by obtain rfl:=ul.1 hp;exact bt) (oY 1 11 (uR x oM oM _ _ e.g) rfl X ?_));rintro _ _ _ u12 X ⟨I,rfl,dc,c7,kr⟩;obtain ⟨_,e,-,-⟩:=e.take u12 dc c7;replace e:=e.to [⟨I,33,(wds x).flatMap ag⟩,⟨W,35,[uV 0,eS]⟩,⟨b4,35,nc y⟩,⟨b1,35,nc x⟩] [];refine oY 3 13 (uR y oM oM _ _ e.g) rfl X ?_;rintro _ _ _ u16 X ⟨K,rfl,c9,d1,j1⟩;obtain ⟨_,e,-,-⟩:=e.take u16 c9 d1;replace e:=e.to [⟨K,33,(wds y).flatMap ag⟩,⟨I,33,(wds x).flatMap ag⟩,⟨W,35,[uV 0,eS]⟩,⟨b4,35,nc y⟩,⟨b1,35,nc x⟩] [];refine zV 4 5 (qS (sB I) ((wds x).length) ((wds x).length)) (zV 5 6 (qS (sB K) ((wds y).length) ((wds y).length)) (qQ (lL e ac (E7 15 1 e (fun _ g_ f_ S=>oE (sB I) (wds x).length (wds x) (wds x).length rfl (Wd.wds x) (by rw[aI];omega) oM _ _ g_ (f_.1) (SlO.of_flat (sz:=1) (f:=ag) (d:=0) (b:=I) (o:=0) (l:=wds x) (fun _=>rfl) S)) ?_))));rintro _ _ _ e ⟨kx,mx,rfl,htx,hkx⟩;rw[aI] at htx
 refine lL e ac (E7 17 0 e (fun _ g_ f_ S=>oE (sB K) (wds y).length (wds y) (wds y).length rfl (Wd.wds y) (by rw[aI];omega) oM _ _ g_ (f_.1) (SlO.of_flat (sz:=1) (f:=ag) (d:=0) (b:=K) (o:=0) (l:=wds y) (fun _=>rfl) S)) ?_);rintro _ _ _ e ⟨ky,my,rfl,hty,hky⟩;rw[aI] at hty
 refine lV 18 (nV (min kx ky)) ?_ (hr:=aY (n:=if (ky:Int)<(kx:Int) then (ky:Int) else (kx:Int)) kR (by split<;>omega));refine lL e ac (aK (lL e ac (eD 20 (o9 I (wds x) 0 ((wds x).length) ((wds x).length) x hpx oM oM (nR _) (Wd.wds x) (o7 _ _ (nR _)) _ _ e.g (e.own 1) (e.jk 1) e.f.1) ?_)));rintro _ _ _ u27 ⟨z24,o24,n24,zl,rfl,hl,bz,ch,bl,⟨h8,dn,j,cd⟩,f8⟩;replace e:=(e.stepM 1 u27 f8).to [⟨K,33,(wds y).flatMap ag⟩,⟨I,33,(z24).flatMap ag⟩,⟨W,35,[uV 0,eS]⟩,⟨b4,35,nc y⟩,⟨b1,35,nc x⟩] [];have cb:=j.odd_pos;have hh:=j.le;refine lL e ac (eD 22 (o9 K (wds y) 0 ((wds y).length) ((wds y).length) y hpy oM oM (nR _) (Wd.wds y) (o7 _ _ (nR _)) _ _ e.g (e.own 0) (e.jk 0) e.f.1) ?_);rintro _ _ zm u31 ⟨z28,o28,n28,zn,rfl,hc,cz,bd,b0,⟨h5,fn,B,bx⟩,d0⟩;replace e:=(e.stepM 0 u31 d0).to [⟨K,33,(z28).flatMap ag⟩,⟨I,33,(z24).flatMap ag⟩,⟨W,35,[uV 0,eS]⟩,⟨b4,35,nc y⟩,⟨b1,35,nc x⟩] [];have b9:=B.odd_pos;have hn:=B.le;refine lL e aF (af (kZ ?_));refine bS _ (CG.loop (fun μ_ Γ w_=>∃ (J:Nat)(M:List Nat)(U:Nat)(O:Nat)(c1:Nat)(Q:Nat)(l2:List Nat)(Y:Nat)(V:Nat)(c2:Nat)(C:Nat)(y1:Nat)(h_:Hp),μ_=C+y1/\Γ=[(4,pB W),(7,nV (min kx ky)),(5,qS (some ⟨J,U,none⟩) O c1),(6,qS (some ⟨Q,Y,none⟩) V c2)]/\SS w h w_ h_ [⟨Q,33,(l2).flatMap ag⟩,⟨J,33,(M).flatMap ag⟩,⟨W,35,[uV 0,eS]⟩,⟨b4,35,nc y⟩,⟨b1,35,nc x⟩] [] [fun h_=>Tab h_]/\M.length<=1000000000/\Wd M/\U+O<=M.length/\O<=c1/\win M U O=wds C/\0<C/\l2.length<=1000000000/\Wd l2/\Y+V<=l2.length/\V<=c2/\win l2 Y V=wds y1/\0<y1/\C%2=1/\y1%2=1/\GP C y1*2^min kx ky=GP x y) _ ⟨I,z24,o24,n24,zl,K,z28,o28,n28,zn,dn,fn,zm,rfl,rfl,e.to _ _,oM,bz,ch,bl,cd,cb,oM,cz,bd,b0,bx,b9,j.2,B.2,(by rw[(htx.uniq j).1,(hty.uniq B).1];exact (th j B).symm)⟩ ?_);rintro _ _ _ ⟨J,M,U,O,c1,Q,l2,Y,V,c2,C,y1,_,h2,rfl,e,hl1,hW1,D,bb,i,hx1,hl2,hW2,L,Z,u,hy1,hxo,hyo,hG⟩;have h7:=jO C y1;have df:=congrArg GV i;rw[bw D] at df
 have c6:=congrArg GV u;rw[bw L] at c6
 refine kZ (aa e aF (ET 25 1 0 e (fun _ g_ f_ S sh_=>rt (some ⟨J,U,none⟩) c1 (some ⟨Q,Y,none⟩) c2 C y1 O V (win M U O) (win l2 Y V) i u (bw D) (bw L) oM oM _ _ g_ (SlO.win (f:=ag) (d:=0) (b:=J) (l:=M) (fun _=>rfl) S U O) (SlO.win (f:=ag) (d:=0) (b:=Q) (l:=l2) (fun _=>rfl) sh_ Y V)) ?_));rintro _ _ _ e rfl;refine lL e ac (af (aa e ac ?_));cases za:((bG C y1:Int) == (0:Int))
 .
  have zd:=aq za;refine lB 27 za (aj (cK (cQ (aa e ac ?_))));cases zb:(decide ((bG C y1:Int)<(0:Int)))
  .
   have ze:=oF zb;refine lB 29 zb (aj (cK (kQ (lL e aF (Dv 34 1 0 e (fun _ g_ f_ hj_ sh_=>uq J M U O c1 C oM D bb hW1 i (some ⟨Q,Y,none⟩) c2 y1 V (win l2 Y V) u (bw L) Z oM _ _ g_ (e.own 1) hj_ (SlO.win (f:=ag) (d:=0) (b:=Q) (l:=l2) (fun _=>rfl) sh_ Y V)) ?_)))));rintro _ _ _ u44 ⟨s41,fm,fp,f3,rfl,f9,bn,b5,c3,b3,zi⟩;replace e:=(e.stepM 1 u44 zi).to [⟨Q,33,(l2).flatMap ag⟩,⟨J,33,(s41).flatMap ag⟩,⟨W,35,[uV 0,eS]⟩,⟨b4,35,nc y⟩,⟨b1,35,nc x⟩] [];refine eD 35 (o9 J s41 fm fp f3 (C-y1) oM oM b5 c3 bn b3 _ _ e.g (e.own 1) (e.jk 1) e.f.1) ?_;rintro _ _ zo u48 ⟨z45,o45,n45,zp,rfl,hq,bf,cr,b2,⟨kq,ds,H,c5⟩,f2⟩;replace e:=(e.stepM 1 u48 f2).to [⟨Q,33,(l2).flatMap ag⟩,⟨J,33,(z45).flatMap ag⟩,⟨W,35,[uV 0,eS]⟩,⟨b4,35,nc y⟩,⟨b1,35,nc x⟩] [];have cm:=H.odd_pos;have hb:=H.le;refine lL e ac (lD ?_);intro a_ ka;refine ⟨_,_,?_,⟨J,z45,o45,n45,zp,Q,l2,Y,V,c2,ds,y1,zo,rfl,rfl,e.to _ _,oM,bf,cr,b2,c5,cm,oM,hW2,L,Z,u,hy1,H.2,hyo,(by rw[pE oM hyo H];exact hG)⟩,ka.to _ kR⟩
   omega
  have ze:=oT zb;refine lB 29 zb (ar (kQ (lL e m9 (lN (kQ (lL e aF (Dv 34 0 1 e (fun _ g_ f_ hj_ sh_=>uq Q l2 Y V c2 y1 oM L Z hW2 u (some ⟨J,U,none⟩) c1 C O (win M U O) i (bw D) bb oM _ _ g_ (e.own 0) hj_ (SlO.win (f:=ag) (d:=0) (b:=J) (l:=M) (fun _=>rfl) sh_ U O)) ?_)))))));rintro _ _ _ u67 ⟨s64,f6,c8,f7,rfl,hd,bm,cx,cq,cp,zj⟩;replace e:=(e.stepM 0 u67 zj).to [⟨Q,33,(s64).flatMap ag⟩,⟨J,33,(M).flatMap ag⟩,⟨W,35,[uV 0,eS]⟩,⟨b4,35,nc y⟩,⟨b1,35,nc x⟩] [];refine eD 35 (o9 Q s64 f6 c8 f7 (y1-C) oM oM cx cq bm cp _ _ e.g (e.own 0) (e.jk 0) e.f.1) ?_;rintro _ _ zq u71 ⟨z68,o68,n68,zr,rfl,ht,cf,b6,bq,⟨hw,f1,F,cy⟩,d2⟩;replace e:=(e.stepM 0 u71 d2).to [⟨Q,33,(z68).flatMap ag⟩,⟨J,33,(M).flatMap ag⟩,⟨W,35,[uV 0,eS]⟩,⟨b4,35,nc y⟩,⟨b1,35,nc x⟩] [];have bk:=F.odd_pos;have hj:=F.le;refine lL e ac (lD ?_);replace e:=e.perm (List.Perm.swap _ _ _);intro a_ ka;refine ⟨_,_,?_,⟨Q,z68,o68,n68,zr,J,M,U,O,c1,f1,C,zq,rfl,rfl,e.to _ _,oM,cf,b6,bq,cy,bk,oM,hW1,D,bb,i,hx1,F.2,hxo,(by rw[pE oM hxo F,GB];exact hG)⟩,ka.to _ kR⟩
  omega
 have zd:=eq_of_beq za;refine lB 27 za (ar (CG.exit ?_))
 show CG _ _ _ _ _ _ _ _
 refine aa e ac (E7 37 1 e (fun _ g_ f_ S=>Dd (some ⟨J,U,none⟩) c1 (win M U O) O C i (bw D) oM _ _ g_ (SlO.win (f:=ag) (d:=0) (b:=J) (l:=M) (fun _=>rfl) S U O)) ?_);rintro _ _ _ e rfl;refine lA 9 35 ([uV 0,eS]) e (fun zg _ zs e=>lP 0 0 (nc C) e (fun _ e=>af (kZ ?_)));refine bS _ (CG.loop (fun μ_ Γ w_=>∃ (z:Int)(a:Nat)(h_:Hp),μ_=z.toNat/\Γ=[(4,pB W),(9,pB zg),(7,iV z)]/\SS w h w_ h_ [⟨zg,35,nc a⟩,⟨Q,33,(l2).flatMap ag⟩,⟨J,33,(M).flatMap ag⟩,⟨W,35,[uV 0,eS]⟩,⟨b4,35,nc y⟩,⟨b1,35,nc x⟩] [] [fun h_=>Tab h_]/\z<=64000000000/\a*2^z.toNat=GP x y) _ ⟨((min kx ky:Nat):Int),C,zs,rfl,rfl,e.to _ _,oM,(by rw[show C=y1 by omega,Nat.gcd_self] at hG;rw[show C=y1 by omega];rw[show (((min kx ky:Nat):Int)).toNat=min kx ky by omega];exact hG)⟩ ?_);rintro _ _ _ ⟨z,a,_,kn,rfl,e,hz,ha⟩;refine cQ (aa e ac ?_);cases zc:(decide ((0:Int)<(z:Int)))
 .
  have zf:=oF zc;refine lB 39 zc (aj (CG.exit ?_))
  show CG _ _ _ _ _ _ _ _
  exact aa e [.o (nv a) 0 0 2] (lP 3 0 (nc a) e (fun _ e=>ae e [(3,0,2)] (nv a) (by rw[show z.toNat=0 by omega,Gy,F8] at ha;rw[ha])))
 have zf:=oT zc;refine lB 39 zc (ar (cK (cQ (kZ (kQ (lL e [.o (nv a) 0 0 2,.c] (lV 44 (nV (min z.toNat 65536)) ?_ (hr:=aY (n:=if (65536:Int)<z then (65536:Int) else z) kR (by split<;>omega)))))))));refine ao 45 e (Cs a (min z.toNat 65536) (by have:=bV (show a<=x by exact ez (Nat.le_mul_of_pos_right a (As z.toNat)) (by rw[ha];exact GW y hx));omega) oM _ _ e.g) (fun _ zk e=>lP 0 0 (nc (a*2^min z.toNat 65536)) e (fun _ e=>lN (kQ (lL e ac (lI 41 (z-65536) ?_)))));refine lL e ac (lD ?_);intro a_ ka;refine ⟨_,_,?_,⟨z-65536,a*2^min z.toNat 65536,zk,rfl,rfl,e.to _ _,oM,(by rw[Ab,<-A4,show min z.toNat 65536+(z-65536).toNat=z.toNat by omega];exact ha)⟩,ka.to _ kR⟩
 omega
theorem j3 (n:Nat):(n=0/\nb n=0)\/(0<n/\0<nb n):=by
 rcases yU n with h|h
 ·subst h;exact .inl ⟨rfl,rfl⟩
 ·exact .inr ⟨h,(bR h).2.2⟩
theorem ie (x y:Nat):GP y (x%y)=GP x y:=by rw[GB y,<-Nat.gcd_rec,GB]
theorem B7 (n:Nat)(w:World)(h:Hp)(g:G w h):CR 70 #[nv n] w h (fun v _=>∃ s:Nat,∃ ok:Bool,v=.tuple #[mV s,.bool ok]/\(ok=true->s=n/\n<18446744073709551616)):=by
 rcases ep n 18446744073709551616 with hn|hn
 ·refine (pZ n hn w h g).mono ?_
  rintro _ w' ⟨_,a,rfl,u,rfl⟩;exact ⟨_,a,rfl,u,n,true,rfl,fun _=>⟨rfl,hn⟩⟩
 ·refine (vV n hn w h g).mono ?_
  rintro _ w' ⟨_,a,rfl,u,rfl⟩;exact ⟨_,a,rfl,u,0,false,rfl,fun e=>by cases e⟩
theorem Fk (a b:Int)(hla:(wds (ab a)).length<=1000000000)(hlb:(wds (ab b)).length<=1000000000)(w:World)(h:Hp)(g:G w h)(tb:Tab h):CV 31 #[iv a,iv b] w h (nv (GP (ab a) (ab b))):=by
 have d:=((sS g).aB tb);refine go Tryz.func31 [(0,iv a),(1,iv b)] rfl (aD (lA 2 37 (ic a) d (fun X w2 h3 d=>lA 3 37 (ic b) d (fun b4 w5 h6 d=>lA 4 35 ([uV 0,eS]) d (fun Q w8 h9 d=>af ?_)))));have z:=d;refine wQ 6 [⟨4,5,.cells (GX [uV 0,eS]) 35 (0,0)⟩,⟨5,6,.cells (GX [uV 0,eS]) 35 (0,0)⟩] [] mixed d (aW (cl kR (fun _ _=>by kernel_rfl)) (aW (cl kR (fun _ _=>by kernel_rfl)) am)) (eV 0 14 (qP X 1) (eO 1 15 [(2,1,2)] (nv (ab a)) d (eV 2 16 (qP b4 1) (rF 3 17 [(1,1,2)] (nv (ab b)) z d (B6 z d 35 [uV 0,eS] 35 [uV 0,eS] (fun _ _ K H L J d=>tP 6 0 0 (nc (ab a)) d (fun _ d=>?_) (hz:=eZ L)))))));refine tP 7 1 0 (nc (ab b)) d (fun _ d=>?_) (hz:=eZ J);refine tN (CG.join (fun Γ Y=>∃ (x:Nat)(y:Nat)(D:Hp),Γ=[(4,pB Q),(6,pB H),(5,pB K)]/\SS w h Y D [⟨K,35,nc x⟩,⟨H,35,nc y⟩,⟨Q,35,[uV 0,eS]⟩,⟨b4,37,ic b⟩,⟨X,37,ic a⟩] [] [fun D=>Tab D]/\(wds x).length<=1000000000/\(wds y).length<=1000000000/\GP x y=GP (ab a) (ab b)) ?_ ?_)
 .
  refine aa d [.o (nv (ab a)) 0 0 2,.o (nv (ab b)) 1 0 2] (ao 20 d (ki (ab a) (ab b) aM aM _ _ d.g) (fun _ zm d=>?_));have hcm:=jO (ab a) (ab b);cases S:(decide ((bG (ab a) (ab b):Int)<(0:Int)))
  .
   have zi:=oF S;refine lB 21 S (aj (CG.skip ?_));intro a_ M;exact ⟨_,⟨(ab a),(ab b),zm,rfl,d.to _ _,aM,aM,(by first|rfl|exact GB _ _)⟩,M.to _ kR⟩
  have zi:=oT S;refine lB 21 S (ar (kQ (lL d [.o (nv (ab b)) 1 0 2,.o (nv (ab a)) 0 0 2] (lP 0 0 (nc (ab b)) d (fun _ d=>lP 1 0 (nc (ab a)) d (fun _ d=>lD ?_))))));intro a_ M;exact ⟨_,⟨(ab b),(ab a),zm,rfl,d.to _ _,aM,aM,(by first|rfl|exact GB _ _)⟩,M.to _ kR⟩
 rintro _ _ ⟨x,y,_,rfl,d,hlx,hly,I⟩;refine cQ (aa d [.o (nv y) 1 0 2] (ao 25 d (ef y (by first|assumption|exact au (GY (yM _ oM)) aM) _ _ d.g) (fun _ _ d=>?_)));have bk:=j3 y;cases O:(((nb y:Nat):Int) == (0:Int))
 .
  have zj:=aq O;refine lB 26 O (aj (cK (aa d [.o (nv x) 0 0 2,.o (nv y) 1 0 2] (ao 31 d (Eo x y oM aM aM _ _ d.g) (fun _ _ d=>?_)))));have hmd:=yM x (show 0<y by omega);refine lL d [.c,.v (nv (x/y)),.v (nv (x%y)),.v qT] (lA 7 35 ([uV 0,eS]) d (fun zn _ _ d=>lA 8 35 ([uV 0,eS]) d (fun zo _ _ d=>lP 1 0 (nc (x/y)) d (fun _ d=>lP 0 0 (nc (x%y)) d (fun _ d=>lL d ac (af ?_))))));have z:=d;refine wQ 2 [] [K,H] mixed d am (eO 0 35 [(3,0,2)] (nv y) d (rF 1 36 [(0,0,2)] (nv (x%y)) z d ?_ (hM:=fun p Z=>by obtain rfl:=ul.1 Z;exact fun F=>by rcases g3.1 F with e|F;exact eW d.st (i:=0) (j:=2) kR kR kR e;rcases g3.1 F with e|F;exact eW d.st (i:=0) (j:=3) kR kR kR e;cases F)));refine bW d (fun _ _ d=>tP 2 2 0 (nc y) d (fun _ d=>?_) (hz:=eP (GF)));refine tP 3 3 0 (nc (x%y)) d (fun _ d=>?_) (hz:=eP (GG _<|GF));refine tN (cQ (aD ?_));have C:GP y (x%y)=GP (ab a) (ab b):=by rw[<-I];exact ie _ _
  refine lL d [.o (nv (x%y)) 3 0 2] (ao 38 d (ef (x%y) (by first|assumption|exact au (GY (yM _ oM)) aM) _ _ d.g) (fun _ _ d=>?_));have bf:=j3 (x%y);cases U:(((nb (x%y):Nat):Int) == (0:Int))
  .
   have zk:=aq U;refine lB 39 U (aj (cK (cQ (aa d [.o (nv y) 2 0 2] (lC 43 d (B7 y _ _ d.g) ?_)))));rintro _ _ _ d ⟨sp,ok,rfl,l⟩;refine lL d [.c,.v (mV sp),.v (.bool ok),.c,.c] (aK (lL d ac (lN ?_)));cases V:(ok)
   .
    try rw[V] at d
    try rw[V]
    exact cG (cK (aa d [.o (nv y) 2 0 2,.o (nv (x%y)) 3 0 2] (ao 62 d (xD y (x%y) oM oM (by first|assumption|exact au (GY (yM _ oM)) aM) (by first|assumption|exact au (GY (yM _ oM)) aM) _ _ d.g d.f.1) (fun _ _ d=>lP 4 0 (nc (GP y (x%y))) d (fun _ d=>ae d [(4,0,2)] (nv (GP y (x%y))) (congrArg nv C))))))
   try rw[V] at d
   try rw[V]
   refine bY (aa d [.o (nv (x%y)) 3 0 2] (ao 49 d (pZ (x%y) (by have B:=l aM;omega) _ _ d.g) (fun _ zp d=>lL d [.c,.v (mV (x%y)),.v qT,.c,.c] (af (kZ ?_)))));refine bS _ (CG.loop (fun μ_ Γ Y=>∃ (p:Nat)(q:Nat)(D:Hp),μ_=q/\Γ=[(4,pB Q),(6,pB H),(5,pB K),(10,mV p),(12,mV q)]/\SS w h Y D [⟨zo,35,nc (x%y)⟩,⟨zn,35,nc (x/y)⟩,⟨K,35,nc y⟩,⟨H,35,nc (x%y)⟩,⟨Q,35,[uV 0,eS]⟩,⟨b4,37,ic b⟩,⟨X,37,ic a⟩] [] [fun D=>Tab D]/\p<18446744073709551616/\q<18446744073709551616/\GP p q=GP (ab a) (ab b)) _ ⟨sp,(x%y),zp,rfl,rfl,d.to _ _,(by have B:=l aM;omega),(by have B:=l aM;omega),(by rw[(l aM).1];exact C)⟩ ?_);rintro _ _ _ ⟨p,q,_,bd,rfl,d,Z,hq,hG⟩;refine cQ (aa d ac ?_);cases W:(decide ((0:Int)<(q:Int)))
   .
    have zl:=oF W;refine lB 53 W (aj (CG.exit ?_))
    show CG _ _ _ _ _ _ _ _
    exact aa d ac (ao 59 d (EI p Z _ _ d.g) (fun _ _ d=>lP 4 0 (nc p) d (fun _ d=>ae d [(4,0,2)] (nv p) (congrArg nv (by rw[<-hG,show q=0 by omega,GZ])))))
   have zl:=oT W;refine lB 53 W (ar (cK (kZ (cR 4 [] mixed d am ?_))));refine eV 0 54 (mV q) (eV 1 55 (mV p) (eV 2 56 (mV q) (eV 3 57 (mV (p%q)) ?_ (hv:=fun _=>aY (eT (t:=33) (u:=33) (x:=.tmp 55) (y:=.tmp 56) (k:=.u64) (a:=(p:Int)) (b:=(q:Int)) kR kR kR oM _) (cX p q)))));refine bW d (fun _ zq d=>tV 4 10 (mV q) (tV 5 12 (mV (p%q)) (tD ?_)));intro a_ M;refine ⟨_,_,?_,⟨q,p%q,zq,rfl,rfl,d.to _ _,hq,(by have:=yM p (show 0<q by omega);omega),(by rw[ie];exact hG)⟩,M.to _ kR⟩;have bb:=yM p (show 0<q by omega)
   omega
  have zk:=eq_of_beq U;exact lB 39 U (ar (aa d [.o (nv y) 2 0 2] (lP 4 0 (nc y) d (fun _ d=>ae d [(4,0,2)] (nv y) (congrArg nv (by rw[<-C,show (x%y)=0 by omega,GZ]))))))
 have zj:=eq_of_beq O;exact lB 26 O (ar (aa d [.o (nv x) 0 0 2] (lP 2 0 (nc x) d (fun _ d=>ae d [(2,0,2)] (nv x) (congrArg nv (by rw[<-I,show y=0 by omega,GZ]))))))
theorem nI (z:Int)(b:Nat)(c:(b:Int)∣z):bT (decide (z.sign<0)) (ab z/b)=z/b:=by
 obtain ⟨k,rfl⟩:=c
 rcases yU b with hb|hb
 ·subst hb;simp[bT,ab]
 have e1:ab ((b:Int)*k)/b=k.natAbs:=by
  unfold ab
  rw[G0,G1,GT _ hb]
 have e2:((b:Int)*k)/b=k:=G2 _ oM;have a:((b:Int)*k).sign=k.sign:=by rw[Int.sign_mul,Int.sign_natCast_of_ne_zero oM,Int.one_mul]
 rw[e1,e2,a]
 unfold bT
 rcases G3 k 0 with h|h|h
 ·rw[GL h];simp;omega
 ·subst h;simp
 ·rw[GM h];simp;omega
theorem jj (a b:Rat):∀ g h:Nat,∀ up:Int,g=GP a.den b.den->up=a.num*((b.den/g:Nat):Int)+b.num*((a.den/g:Nat):Int)->h=GP (ab up) g ->
    (a+b).num=up/h/\(a+b).den=(a.den/g)*(b.den/h)/\(h:Int)∣up/\h∣b.den/\0<h/\0<g:=by
  intro g h up c d f;have i:0<g:=by rw[c];exact Nat.gcd_pos_of_pos_left _ a.den_pos
  have p:0<h:=by rw[f];exact G4 _ i
  have y:g∣a.den:=by rw[c];exact G5 _ _
  have u:g∣b.den:=by rw[c];exact G6 _ _
  have l:h∣g:=by rw[f];exact G6 _ _
  have x:(h:Int)∣up:=by
    have h1:h∣up.natAbs:=by rw[f];exact G5 _ _
    exact G7 (G8.2 h1) (G9.2 (Ha _))
  have j:h∣b.den:=Nat.dvd_trans l u;refine ⟨?_,?_,x,j,p,i⟩
  . show (Hb a b).num=_
    delta Hb
    dsimp only
    split
    . rename_i h1
      have o:g=1:=by rw[c];exact h1
      dsimp only
      clear h1 c
      subst o;have e:h=1:=by rw[f];simp
      rw[e,d];simp
    . subst c d f
      dsimp only[Hc]
      split
      . rename_i h1
        dsimp only
        unfold ab
        rw[h1];simp
      . dsimp only
        rw[Hd]
        rfl
  . show (Hb a b).den=_
    delta Hb
    dsimp only
    split
    . rename_i h1
      have o:g=1:=by rw[c];exact h1
      dsimp only
      clear h1 c
      subst o;have e:h=1:=by rw[f];simp
      rw[e];simp
    . subst c d f
      dsimp only[Hc]
      split
      . rename_i h1
        dsimp only
        unfold ab
        rw[h1];simp
      . dsimp only
        rw[He]
        unfold ab at *
        rw[Nat.mul_div_assoc _ j]
theorem jr (a b:Rat):∀ g h:Nat,g=GP (ab a.num) b.den->h=GP (ab b.num) a.den ->
  (a*b).num=(a.num/g)*(b.num/h)/\(a*b).den=(a.den/h)*(b.den/g)/\(g:Int)∣a.num/\(h:Int)∣b.num/\0<g/\0<h:=by
 intro g h c d;have e:0<g:=by rw[c];exact G4 _ b.den_pos
 have f:0<h:=by rw[d];exact G4 _ a.den_pos
 have i:(g:Int)∣a.num:=by
  have h1:g∣a.num.natAbs:=by rw[c];exact G5 _ _
  exact G7 (G8.2 h1) (G9.2 (Ha _))
 have j:(h:Int)∣b.num:=by
  have h1:h∣b.num.natAbs:=by rw[d];exact G5 _ _
  exact G7 (G8.2 h1) (G9.2 (Ha _))
 refine ⟨?_,?_,i,j,e,f⟩
 ·show (Hf a b).num=_
  delta Hf
  dsimp only
  rw[Hd,Hd,c,d];rfl
 ·show (Hf a b).den=_
  delta Hf
  dsimp only
  rw[He,He,c,d];rfl
theorem fQ (n:Int)(d:Nat)(b:0<d):(mkRat n d).num=n/(GP (ab n) d:Nat)/\(mkRat n d).den=d/GP (ab n) d/\((GP (ab n) d:Nat):Int)∣n/\0<GP (ab n) d:=by
 have a:((GP (ab n) d:Nat):Int)∣n:=by
  have h1:GP (ab n) d∣n.natAbs:=G5 _ _;exact G7 (G8.2 h1) (G9.2 (Ha _))
 unfold mkRat
 rw[dif_neg oM,Rat.normalize_eq];exact ⟨rfl,rfl,a,G4 _ b⟩
theorem pH (b:Rat)(h:b.num≠0):(b⁻¹).num=bT (decide (b.num.sign<0)) b.den/\(b⁻¹).den=ab b.num:=by
 have e:b⁻¹=Rat.inv b:=rfl;rw[e]
 delta Rat.inv
 split
 ·rename_i h1
  rw[GL h1];simp[bT,ab]
 ·split
  ·rename_i h1
   rw[GM h1];simp[bT,ab]
  ·omega
def LQ (k:Nat)(q:Rat):Prop:=(wds (ab q.num)).length<=k/\(wds q.den).length<=k
theorem du (n:Nat)(w:World)(h:Hp)(g:G w h):CV 32 #[.bool false,nv n] w h (iv (n:Int)):=uz n w h g
theorem it (x y:Int)(d:Nat)(e:d=GP (ab x) (ab y))(b:(wds (ab x)).length<=1000000000)(a:(wds (ab y)).length<=1000000000)(w:World)(h:Hp)(g:G w h)(c:Tab h):CV 31 #[iv x,iv y] w h (nv d):=by
 subst e;exact Fk x y b a w h g c
theorem sw {n:Nat}:nb n=1↔n=1:=by
 rcases yU n with h|h
 ·subst h;simp[nb]
 ·have h1:=bR h
  constructor
  ·intro e;rw[e] at h1;omega
  ·intro e;subst e;rfl
theorem nF {n:Nat}:nb n=0↔n=0:=by
 rcases j3 n with ⟨h1,h2⟩|⟨h1,h2⟩<;>omega
theorem jG {q:Rat}(h:q.den=1):qd q=0:=by unfold qd;rw[if_pos h]
theorem x6 {q:Rat}(h:q.den≠1):qd q=q.den:=by unfold qd;rw[if_neg h]
theorem wE {q:Rat}:qd q=0↔q.den=1:=by
 unfold qd
 have:=q.den_pos
 split<;>omega
theorem FS (q:Rat):(((nb (qd q):Nat):Int) == (0:Int))=decide (q.den=1):=by
 rw[Bool.eq_iff_iff]
 simp only[beq_iff_eq,decide_eq_true_eq]
 rw[<-wE,<-nF]
 omega
theorem gK {q:Rat}{z:Int}{d:Nat}(hz:q.num=z)(a:qd q=d):Value.agg #[.bool (aw z),.int .u64 (lo (ab z)),.string (hi (ab z)),.int .u64 (lo d),.string (hi d)]=qv q:=by subst hz a;rfl
theorem LQ.qd {k:Nat}{q:Rat}(h:LQ k q):(wds (qd q)).length<=k:=by
 unfold Go.Proofs.YtmdaaeffcfheoaaGreatDoor.qd
 split
 ·exact GA _
 ·exact h.2
theorem Et (a:Rat)(ha:LQ 1000000000 a)(w:World)(h:Hp)(g:G w h):CV 34 #[iv a.num,nv a.den] w h (qv a):=by
 have b:=sS g;obtain ⟨j,e⟩:=ha;have i:=@sw a.den;refine go Tryz.func34 [(0,iv a.num),(1,nv a.den)] rfl (aD (lA 2 37 (ic a.num) b (fun l w2 p b=>lA 3 35 (nc a.den) b (fun u C B b=>lA 4 39 a2 b (fun x y z b=>af (aa b [.o (nv a.den) 1 0 2] (ao 6 b (ef a.den bQ _ _ b.g) (fun _ _ b=>?_))))))));cases c:(((nb a.den:Nat):Int) == (1:Int))
 .
  have f:=aq c;exact lB 7 c (aj (cK (aa b [.o (iv a.num) 2 0 3,.o (nv a.den) 1 0 2,.v (.agg #[.bool (aw a.num),uV (lo (ab a.num)),.string (hi (ab a.num)),uV (lo a.den),.string (hi a.den)])] (lP 0 0 ([.bool (aw a.num),uV (lo (ab a.num)),.string (hi (ab a.num)),uV (lo a.den),.string (hi a.den)]) b (fun _ b=>ae b [(0,0,5)] (.agg #[.bool (aw a.num),uV (lo (ab a.num)),.string (hi (ab a.num)),uV (lo a.den),.string (hi a.den)]) (gK (q:=a) (d:=a.den) rfl (x6 oM)))))))
 have f:=eq_of_beq c;exact lB 7 c (ar (aa b [.o (iv a.num) 2 0 3,.v (.agg #[.bool (aw a.num),uV (lo (ab a.num)),.string (hi (ab a.num)),uV 0,eS])] (lP 0 0 ([.bool (aw a.num),uV (lo (ab a.num)),.string (hi (ab a.num)),uV 0,eS]) b (fun _ b=>ae b [(0,0,5)] (.agg #[.bool (aw a.num),uV (lo (ab a.num)),.string (hi (ab a.num)),uV 0,eS]) (gK (q:=a) (d:=0) rfl (jG oM))))))
theorem iX (q:Rat)(z:Int)(d:Nat)(hz:q.num=z)(a:d=q.den)(b:LQ 1000000000 q)(w:World)(h:Hp)(g:G w h):CV 34 #[iv z,nv d] w h (qv q):=by
 subst hz a;exact Et q b w h g
theorem bH (z:Int)(g:Nat)(a:(g:Int)∣z):ab (z/g)<=ab z:=by
 unfold ab
 rcases yU g with h|h
 ·subst h;simp
 ·obtain ⟨k,rfl⟩:=a
  rw[G2 _ oM,G0,G1];exact GU _ h
theorem fI (a b:Nat)(y:0<b)(p:(wds a).length<=1000000000)(f:(wds b).length<=1000000000)(w:World)(h:Hp)(g:G w h):CV 36 #[nv a,nv b] w h (nv (a/b)):=by
 have d:=sS g;have l:=@sw b;refine go Tryz.func36 [(0,nv a),(1,nv b)] rfl (aD (lA 2 35 (nc a) d (fun x w2 z d=>lA 3 35 (nc b) d (fun B I H d=>lA 4 35 ([uV 0,eS]) d (fun C D F d=>af (aa d [.o (nv b) 1 0 2] (ao 9 d (ef b bQ _ _ d.g) (fun _ _ d=>?_))))))));cases e:(((nb b:Nat):Int) == (1:Int))
 .
  have j:=aq e;exact lB 10 e (aj (cK (aa d [.o (nv a) 2 0 2,.o (nv b) 1 0 2] (ao 15 d (Eo a b oM aM aM _ _ d.g) (fun _ _ d=>lL d [.c,.v (nv (a/b)),.v (nv (a%b)),.v qT] (lA 5 35 ([uV 0,eS]) d (fun i _ _ d=>lA 6 35 ([uV 0,eS]) d (fun u _ _ d=>lP 1 0 (nc (a/b)) d (fun _ d=>lP 0 0 (nc (a%b)) d (fun _ d=>lL d ac (aK (lL d [.o (nv (a/b)) 1 0 2] (lP 2 0 (nc (a/b)) d (fun _ d=>ae d [(2,0,2)] (nv (a/b)) rfl))))))))))))))
 have j:=eq_of_beq e;exact lB 10 e (ar (aa d [.o (nv a) 2 0 2] (lP 0 0 (nc a) d (fun _ d=>ae d [(0,0,2)] (nv a) (by rw[show b=1 by omega,Nat.div_one])))))
theorem jz (z:Int)(b:Nat)(j:0<b)(e:(b:Int)∣z)(c:(wds (ab z)).length<=1000000000)(d:(wds b).length<=1000000000)(w:World)(h:Hp)(g:G w h):CV 35 #[iv z,nv b] w h (iv (z/b)):=by
 have a:=sS g;have f:(wds (ab z/b)).length<=1000000000:=au (zY _ _) c;refine go Tryz.func35 [(0,iv z),(1,nv b)] rfl (aD (lA 2 37 (ic z) a (fun i w2 l a=>lA 3 35 (nc b) a (fun o B y a=>lA 4 37 ([qF,uV 0,eS]) a (fun p u x a=>af (cR 8 [] mixed a am ?_))))));exact eO 0 5 [(2,0,3)] (iv z) a (eO 3 8 [(2,0,3)] (iv z) a (eO 5 10 [(1,0,2)] (nv b) a (ai 1 6 a (fun _ _ a=>jT z bQ _ _ a.g) (fun _ _ a=>eV 2 7 (.bool (decide (((z).sign:Int)<(0:Int)))) (ai 4 9 a (fun _ _ a=>sV z _ _ a.g) (fun _ _ a=>ai 6 11 a (fun _ _ a=>fI (ab z) b aM bQ bQ _ _ a.g) (fun _ _ a=>ai 7 12 a (fun _ _ a=>ek (decide (((z).sign:Int)<(0:Int))) ((ab z)/b) bQ _ _ a.g) (fun _ _ a=>bW a (fun _ _ a=>tP 8 0 0 (ic (bT (decide (((z).sign:Int)<(0:Int))) ((ab z)/b))) a (fun _ a=>tN (kX (a.ret [(0,0,3)] (iv (bT (decide (((z).sign:Int)<(0:Int))) ((ab z)/b))) (congrArg iv (nI z b e))))))))))))))
theorem fX (z:Int)(d:Nat)(e:(wds (ab z)).length+(wds d).length<=1000000000)(w:World)(h:Hp)(g:G w h):CV 39 #[iv z,nv d] w h (iv (z*d)):=by
 have a:=sS g;refine go Tryz.func39 [(0,iv z),(1,nv d)] rfl (aD (lA 2 37 (ic z) a (fun i w2 l a=>lA 3 35 (nc d) a (fun o p f a=>lA 4 37 ([qF,uV 0,eS]) a (fun b c j a=>af (cR 4 [] mixed a am ?_))))));exact eO 0 5 [(2,0,3)] (iv z) a (eO 1 6 [(1,0,2)] (nv d) a (ai 2 7 a (fun _ _ a=>du d _ _ a.g) (fun _ _ a=>ai 3 8 a (fun _ _ a=>wR z (d:Int) bQ _ _ a.g) (fun _ _ a=>bW a (fun _ _ a=>tP 4 0 0 (ic (z*(d:Int))) a (fun _ a=>tN (kX (a.ret [(0,0,3)] (iv (z*(d:Int))) rfl))))))))
theorem j0 (a:Rat)(ha:LQ 100000000 a)(w:World)(h:Hp)(g:G w h):CV 29 #[qv a] w h (.bool (decide (a.den=1))):=by
 have b:=sS g;have e:=ha.qd;exact go Tryz.func29 [(0,qv a)] rfl (aD (lA 1 39 (qc a) b (fun d w2 i b=>lL b ac (aK (lL b [.v (qP d 3),.o (nv (qd a)) 0 3 2] (ao 5 b (ef (qd a) bQ _ _ b.g) (fun f j b=>lL b [.v (.bool (((nb (qd a):Nat):Int) == (0:Int))),.c] (ae b [] (.bool (((nb (qd a):Nat):Int) == (0:Int))) (congrArg Value.bool (FS a))))))))))
theorem dZ (a:Rat)(ha:LQ 100000000 a)(w:World)(h:Hp)(g:G w h):CV 33 #[qv a] w h (nv a.den):=by
 have b:=sS g;refine go Tryz.func33 [(0,qv a)] rfl (aD (lA 1 39 (qc a) b (fun e w2 j b=>lA 2 35 ([uV 0,eS]) b (fun l p f b=>af (aa b [.o (qv a) 1 0 5] (ao 4 b (j0 a aM _ _ b.g) (fun u i b=>?_)))))));cases d:(decide (a.den=1))
 .
  have c:=oF d;exact aj (cK (aa b [.v (qP e 3),.o (nv (qd a)) 1 3 2] (lP 0 0 (nc (qd a)) b (fun _ b=>ae b [(0,0,2)] (nv (qd a)) (by rw[x6 (by simpa using (by assumption:decide (a.den=1)=false))])))))
 have c:=oT d;exact ar (aD (ao 5 b (EI 1 oM _ _ b.g) (fun _ _ b=>lP 0 0 (nc 1) b (fun _ b=>ae b [(0,0,2)] (nv 1) (by rw[show a.den=1 by simpa using (by assumption:decide (a.den=1)=true)])))))
theorem Fl (a:Rat)(w:World)(h:Hp)(g:G w h):CV 133 #[qv a] w h (iv a.num):=by
 have b:=sS g;exact go Tryz.func133 [(0,qv a)] rfl (aD (lA 1 39 (qc a) b (fun c w2 e b=>lA 2 37 ([qF,uV 0,eS]) b (fun f i d b=>aK (lL b [.v (pB c),.o (iv a.num) 1 0 3] (lP 0 0 (ic a.num) b (fun j b=>ae b [(0,0,3)] (iv a.num) rfl)))))))
theorem gI (a:Rat)(ha:LQ 100000000 a)(w:World)(h:Hp)(g:G w h):CV 40 #[qv a] w h (iV a.num.sign):=by
 have b:=sS g;obtain ⟨e,c⟩:=ha;exact go Tryz.func40 [(0,qv a)] rfl (aD (lA 1 39 (qc a) b (fun d w2 i b=>lL b ac (aK (lL b [.v (pB d),.o (iv a.num) 0 0 3] (ao 5 b (jT a.num bQ _ _ b.g) (fun f j b=>lL b ac (ae b [] (iV ((a.num).sign)) rfl))))))))
theorem tY (z:Int)(h0 : -9223372036854775808<=z)(h1:z<=9223372036854775807)(w:World)(h:Hp)(g:G w h):CV 26 #[iV z] w h (qv (z:Rat)):=by
 have a:=sS g;exact go Tryz.func26 [(0,iV z)] rfl (aD (lA 2 39 a2 a (fun c w2 e a=>aK (lL a ac (ao 4 a (FR z oM oM _ _ a.g) (fun b f a=>lL a [.v (.agg #[.bool (aw z),uV (lo (ab z)),.string (hi (ab z)),uV 0,eS])] (lP 0 0 ([.bool (aw z),uV (lo (ab z)),.string (hi (ab z)),uV 0,eS]) a (fun i a=>ae a [(0,0,5)] (.agg #[.bool (aw z),uV (lo (ab z)),.string (hi (ab z)),uV 0,eS]) (gK (d:=0) (Hg z) (jG (Hh z)))))))))))
theorem C7 (a:Rat)(ha:LQ 100000000 a)(w:World)(h:Hp)(g:G w h):CV 255 #[qv a] w h (qv (-a)):=by
 have b:=sS g;obtain ⟨e,d⟩:=ha;refine go Tryz.func255 [(0,qv a)] rfl (aD (lA 1 39 (qc a) b (fun c w2 j b=>lA 2 39 a2 b (fun l o f b=>af (cR 6 [] mixed b am ?_)))));exact eV 0 3 (pB c) (eO 1 4 [(1,0,3)] (iv a.num) b (eV 3 6 (qP c 3) (eO 4 7 [(1,3,2)] (nv (qd a)) b (ai 2 5 b (fun _ _ b=>Dh a.num bQ _ _ b.g) (fun p i b=>eV 5 8 (.agg #[.bool (aw (-a.num)),uV (lo (ab (-a.num))),.string (hi (ab (-a.num))),uV (lo (qd a)),.string (hi (qd a))]) (bW b (fun u _ b=>tP 6 0 0 ([.bool (aw (-a.num)),uV (lo (ab (-a.num))),.string (hi (ab (-a.num))),uV (lo (qd a)),.string (hi (qd a))]) b (fun _ b=>tN (kX (b.ret [(0,0,5)] (.agg #[.bool (aw (-a.num)),uV (lo (ab (-a.num))),.string (hi (ab (-a.num))),uV (lo (qd a)),.string (hi (qd a))]) (gK (Hi a) (by unfold qd;rw[Hj]))))))))))))
theorem pK (z:Int)(d:Nat)(p:0<d)(j:(wds (ab z)).length<=1000000000)(e:(wds d).length<=1000000000)(w:World)(h:Hp)(g:G w h)(x:Tab h):CV 82 #[iv z,nv d] w h (qv (mkRat z d)):=by
 have a:=((sS g).aB x);obtain ⟨b,c,i,o⟩:=fQ z d p;obtain ⟨q,hq⟩:∃ q,q=GP (ab z) d:=⟨_,rfl⟩;rw[<-hq] at b c i o
 have u:(wds q).length<=1000000000:=au (by rw[hq];exact Hk _ p) e;have B:LQ 1000000000 (mkRat z d):=⟨by rw[b];exact au (bH z q i) j,by rw[c];exact au (zY _ _) e⟩;refine go Tryz.func82 [(0,iv z),(1,nv d)] rfl (aD (lA 2 37 (ic z) a (fun C w2 D a=>lA 3 35 (nc d) a (fun F L K a=>lA 4 39 a2 a (fun H I J a=>af ?_)))));have l:=a;refine cR 5 [⟨4,5,.cells (GX [uV 0,eS]) 35 (0,0)⟩] mixed a (aW (cl kR (fun _ _=>by kernel_rfl)) am) (eO 0 6 [(2,0,3)] (iv z) a (eO 1 7 [(1,0,2)] (nv d) a (ai 2 8 a (fun _ _ a=>du d _ _ a.g) (fun _ _ a=>ai 3 9 a (fun _ _ a=>it z (d:Int) q (by first|assumption|exact hq) bQ (show (wds d).length<=1000000000 by first|assumption|omega) _ _ a.g a.f.1) (fun _ _ a=>dm [] l a 35 [uV 0,eS] (fun _ _ y a=>tP 5 0 0 (nc q) a (fun _ a=>tN (cQ (cR 7 [] mixed a am ?_)))))))));exact eO 0 10 [(3,0,3)] (iv z) a (eO 1 11 [(0,0,2)] (nv q) a (eO 3 13 [(2,0,2)] (nv d) a (eO 4 14 [(0,0,2)] (nv q) a (ai 2 12 a (fun _ _ a=>jz z q aM aM bQ bQ _ _ a.g) (fun _ _ a=>ai 5 15 a (fun _ _ a=>fI d q aM bQ bQ _ _ a.g) (fun _ _ a=>ai 6 16 a (fun _ _ a=>iX (mkRat z d) (z/(q:Int)) (d/q) (by first|assumption|exact b|exact (b).symm) (by first|assumption|exact c.symm) aM _ _ a.g) (fun _ _ a=>bW a (fun _ _ a=>tP 7 1 0 (qc (mkRat z d)) a (fun _ a=>tN (kX (a.ret [(1,0,5)] (qv (mkRat z d)) rfl)))))))))))
theorem cV (a:Rat)(ha:LQ 100000000 a)(h1:a.den=1)(w:World)(h:Hp)(g:G w h):CV 29 #[qv a] w h (.bool true):=by
 have:=j0 a ha w h g;rwa [decide_eq_true h1] at this
theorem d6 (a:Rat)(ha:LQ 100000000 a)(h1:a.den≠1)(w:World)(h:Hp)(g:G w h):CV 29 #[qv a] w h (.bool false):=by
 have:=j0 a ha w h g;rwa [decide_eq_false h1] at this
theorem xT (x y z:Int)(e:z=x+y)(a:(wds (ab x)).length+(wds (ab y)).length<=999999999)(w:World)(h:Hp)(g:G w h):CV 38 #[iv x,iv y] w h (iv z):=by
 subst e;exact Dx x y a w h g
theorem f0 (x y:Int):(wds (ab (x*y))).length<=(wds (ab x)).length+(wds (ab y)).length:=by
 have:ab (x*y)=ab x*ab y:=G0 x y;rw[this];exact cn
theorem cA (x:Int)(d:Nat):(wds (ab (x*((d:Nat):Int)))).length<=(wds (ab x)).length+(wds d).length:=f0 x (d:Int)
theorem mS (x y:Int):(wds (ab (x+y))).length<=(wds (ab x)).length+(wds (ab y)).length+1 :=
 ez (bV (show ab (x+y)<=ab x+ab y from Hl x y)) i6
theorem gC {a b:Rat}(ha:a.den=1)(c:b.den=1):(a+b).num=a.num+b.num/\(a+b).den=1:=by
 obtain ⟨e1,e2,d,h,e,f⟩:=jj a b 1 1 (a.num+b.num) (by rw[ha,c];rfl) (by rw[ha,c];simp) (by simp);rw[ha,c] at e2
 exact ⟨by simpa using e1,by simpa using e2⟩
theorem gB {a b:Rat}(ha:a.den=1)(c:b.den=1):(a*b).num=a.num*b.num/\(a*b).den=1:=by
 obtain ⟨e1,e2,d,h,e,f⟩:=jr a b 1 1 (by rw[c];simp) (by rw[ha];simp);rw[ha,c] at e2
 exact ⟨by simpa using e1,by simpa using e2⟩
theorem Bt (a b:Rat)(ha:LQ 100000000 a)(u:LQ 100000000 b)(i:a.den=1)(f:b.den=1)(w:World)(h:Hp)(g:G w h)(x:Tab h):CV 13 #[qv a,qv b] w h (qv (a+b)):=by
 have e:=((sS g).aB x);have j:=ha;have l:=u;obtain ⟨D,y⟩:=j;obtain ⟨C,B⟩:=l;exact go Tryz.func13 [(0,qv a),(1,qv b)] rfl (aD (lA 2 39 (qc a) e (fun p w2 F e=>lA 3 39 (qc b) e (fun z L K e=>lA 4 39 a2 e (fun H I J e=>af (aa e [.o (qv a) 2 0 5] (ao 11 e (cV a aM aM _ _ e.g) (fun _ _ e=>lL e [.c,.o (qv b) 1 0 5] (ao 14 e (cV b aM aM _ _ e.g) (fun _ _ e=>lL e [.v qT] (ar (aa e [.v (pB p),.o (iv a.num) 2 0 3,.v (pB z),.o (iv b.num) 1 0 3] (ao 20 e (Dx a.num b.num bQ _ _ e.g) (fun _ _ e=>lL e [.v (.agg #[.bool (aw (a.num+b.num)),uV (lo (ab (a.num+b.num))),.string (hi (ab (a.num+b.num))),uV 0,eS])] (lP 0 0 ([.bool (aw (a.num+b.num)),uV (lo (ab (a.num+b.num))),.string (hi (ab (a.num+b.num))),uV 0,eS]) e (fun _ e=>ae e [(0,0,5)] (.agg #[.bool (aw (a.num+b.num)),uV (lo (ab (a.num+b.num))),.string (hi (ab (a.num+b.num))),uV 0,eS]) (gK (d:=0) (gC i f).1 (jG (gC i f).2))))))))))))))))))
theorem AP (a b:Rat)(ha:LQ 100000000 a)(y:LQ 100000000 b)(X:a.den≠1)(w:World)(h:Hp)(g:G w h)(O:Tab h):CV 13 #[qv a,qv b] w h (qv (a+b)):=by
 have c:=((sS g).aB O);have z:=ha;have D:=y;obtain ⟨ha1,j⟩:=ha;obtain ⟨hb1,u⟩:=y;obtain ⟨q,hq⟩:∃ q,q=GP a.den b.den:=⟨_,rfl⟩;obtain ⟨up,hup⟩:∃ up,up=a.num*((b.den/q:Nat):Int)+b.num*((a.den/q:Nat):Int):=⟨_,rfl⟩;obtain ⟨r,hr⟩:∃ r,r=GP (ab up) q:=⟨_,rfl⟩;obtain ⟨e,i,B,K,M,C⟩:=jj a b q r up hq hup hr;have x:(wds q).length<=100000000:=au (by rw[hq];exact GW _ a.den_pos) j;have hrl:(wds r).length<=100000000:=au (by rw[hr];exact Hk _ C) x;have haq:(wds (a.den/q)).length<=100000000:=au (zY _ _) j;have Y:(wds (b.den/q)).length<=100000000:=au (zY _ _) u;have L:(wds (b.den/r)).length<=100000000:=au (zY _ _) u;have hx1:=cA a.num (b.den/q);have S:=cA b.num (a.den/q);have H:(wds (ab up)).length<=999999999:=ez (by rw[hup];exact mS _ _) oM;have U:=@cn (a.den/q) (b.den/r);have hLQ:LQ 1000000000 (a+b):=⟨by rw[e];exact au (bH up r B) oM,by rw[i];omega⟩;have ha:=z;have y:=D;refine go Tryz.func13 [(0,qv a),(1,qv b)] rfl (aD (lA 2 39 (qc a) c (fun I w2 h3 c=>lA 3 39 (qc b) c (fun F w5 h6 c=>lA 4 39 a2 c (fun V w8 h9 c=>af (aa c [.o (qv a) 2 0 5] (ao 11 c (d6 a aM aM _ _ c.g) (fun _ _ c=>lL c ac (lG 13 ?_)))))))));refine lG 14 (lL c [.v qF] (aj (cK (cQ ?_))));have d:=c;refine cR 8 [⟨7,5,.cells (GX [uV 0,eS]) 35 (0,0)⟩] mixed c (aW (cl kR (fun _ _=>by kernel_rfl)) am) (eO 0 22 [(2,0,5)] (qv a) c (eO 3 25 [(1,0,5)] (qv b) c (ai 1 23 c (fun _ _ c=>dZ a aM _ _ c.g) (fun _ _ c=>ai 2 24 c (fun _ _ c=>du a.den _ _ c.g) (fun _ _ c=>ai 4 26 c (fun _ _ c=>dZ b aM _ _ c.g) (fun _ _ c=>ai 5 27 c (fun _ _ c=>du b.den _ _ c.g) (fun _ _ c=>ai 6 28 c (fun _ _ c=>it (a.den:Int) (b.den:Int) q (by first|assumption|exact hq) (show (wds a.den).length<=1000000000 by first|assumption|omega) (show (wds b.den).length<=1000000000 by first|assumption|omega) _ _ c.g c.f.1) (fun _ _ c=>dm [] d c 35 [uV 0,eS] (fun _ _ J c=>tP 8 0 0 (nc q) c (fun _ c=>tN (cQ ?_)))))))))));have d:=c;refine wQ 10 [⟨8,6,.cells (GX [uV 0,eS]) 35 (0,0)⟩,⟨9,7,.cells (GX [uV 0,eS]) 35 (0,0)⟩] [] mixed c (aW (cl kR (fun _ _=>by kernel_rfl)) (aW (cl kR (fun _ _=>by kernel_rfl)) am)) (eO 0 29 [(3,0,5)] (qv a) c (eO 2 31 [(0,0,2)] (nv q) c (rF 4 33 [(2,0,5)] (qv b) d c (rF 6 35 [(0,0,2)] (nv q) d c (ai 1 30 c (fun _ _ c=>dZ a aM _ _ c.g) (fun _ _ c=>ai 3 32 c (fun _ _ c=>fI a.den q aM bQ bQ _ _ c.g) (fun _ _ c=>ai 5 34 c (fun _ _ c=>dZ b aM _ _ c.g) (fun _ _ c=>ai 7 36 c (fun _ _ c=>fI b.den q aM bQ bQ _ _ c.g) (fun _ _ c=>B6 d c 35 [uV 0,eS] 35 [uV 0,eS] (fun _ _ W b37 l p c=>tP 10 0 0 (nc (a.den/q)) c (fun _ c=>?_) (hz:=eZ l)))))))))));refine tP 11 1 0 (nc (b.den/q)) c (fun _ c=>?_) (hz:=eZ p);refine tN (cQ ?_);have d:=c;refine cR 10 [⟨9,8,.cells (GX [qF,uV 0,eS]) 37 (0,0)⟩] mixed c (aW (cl kR (fun _ _=>by kernel_rfl)) am) (eV 0 37 (pB I) (eO 1 38 [(5,0,3)] (iv a.num) c (eO 2 39 [(1,0,2)] (nv (b.den/q)) c (eV 4 41 (pB F) (eO 5 42 [(4,0,3)] (iv b.num) c (eO 6 43 [(0,0,2)] (nv (a.den/q)) c (ai 3 40 c (fun _ _ c=>fX a.num (b.den/q) bQ _ _ c.g) (fun _ _ c=>ai 7 44 c (fun _ _ c=>fX b.num (a.den/q) bQ _ _ c.g) (fun _ _ c=>ai 8 45 c (fun _ _ c=>xT (a.num*(((b.den/q):Nat):Int)) (b.num*(((a.den/q):Nat):Int)) up hup oM _ _ c.g) (fun _ _ c=>dm [] d c 37 [qF,uV 0,eS] (fun _ _ Q c=>tP 10 0 0 (ic up) c (fun _ c=>tN (cQ ?_)))))))))))));have d:=c;refine cR 5 [⟨4,9,.cells (GX [uV 0,eS]) 35 (0,0)⟩] mixed c (aW (cl kR (fun _ _=>by kernel_rfl)) am) (eO 0 46 [(0,0,3)] (iv up) c (eO 1 47 [(3,0,2)] (nv q) c (ai 2 48 c (fun _ _ c=>du q _ _ c.g) (fun _ _ c=>ai 3 49 c (fun _ _ c=>it up (q:Int) r (by first|assumption|exact hr) bQ (show (wds q).length<=1000000000 by first|assumption|omega) _ _ c.g c.f.1) (fun _ _ c=>dm [] d c 35 [uV 0,eS] (fun _ _ Z c=>tP 5 0 0 (nc r) c (fun _ c=>tN (bS [(3,pB F),(4,pB V),(6,pB W),(8,pB Q),(9,pB Z)] ?_))))))));refine cQ (cR 10 [] mixed c am ?_);exact eO 0 50 [(1,0,3)] (iv up) c (eO 1 51 [(0,0,2)] (nv r) c (eO 3 53 [(2,0,2)] (nv (a.den/q)) c (eO 4 54 [(6,0,5)] (qv b) c (eO 6 56 [(0,0,2)] (nv r) c (ai 2 52 c (fun _ _ c=>jz up r aM aM bQ bQ _ _ c.g) (fun _ _ c=>ai 5 55 c (fun _ _ c=>dZ b aM _ _ c.g) (fun _ _ c=>ai 7 57 c (fun _ _ c=>fI b.den r aM bQ bQ _ _ c.g) (fun _ _ c=>ai 8 58 c (fun _ _ c=>mG (a.den/q) (b.den/r) bQ bQ _ _ c.g) (fun _ _ c=>ai 9 59 c (fun _ _ c=>iX (a+b) (up/(r:Int)) ((a.den/q)*(b.den/r)) (by first|assumption|exact e|exact (e).symm) (by first|assumption|exact i.symm) aM _ _ c.g) (fun _ _ c=>bW c (fun _ _ c=>tP 10 5 0 (qc (a+b)) c (fun _ c=>tN (kX (c.ret [(5,0,5)] (qv (a+b)) rfl))))))))))))))
theorem BQ (a b:Rat)(ha:LQ 100000000 a)(z:LQ 100000000 b)(hwa:a.den=1)(M:b.den≠1)(w:World)(h:Hp)(g:G w h)(S:Tab h):CV 13 #[qv a,qv b] w h (qv (a+b)):=by
 have d:=((sS g).aB S);have B:=ha;have F:=z;obtain ⟨ha1,l⟩:=ha;obtain ⟨hb1,p⟩:=z;obtain ⟨q,hq⟩:∃ q,q=GP a.den b.den:=⟨_,rfl⟩;obtain ⟨up,hup⟩:∃ up,up=a.num*((b.den/q:Nat):Int)+b.num*((a.den/q:Nat):Int):=⟨_,rfl⟩;obtain ⟨r,hr⟩:∃ r,r=GP (ab up) q:=⟨_,rfl⟩;obtain ⟨i,j,C,L,Q,D⟩:=jj a b q r up hq hup hr;have y:(wds q).length<=100000000:=au (by rw[hq];exact GW _ a.den_pos) l;have hrl:(wds r).length<=100000000:=au (by rw[hr];exact Hk _ D) y;have haq:(wds (a.den/q)).length<=100000000:=au (zY _ _) l;have hbq:(wds (b.den/q)).length<=100000000:=au (zY _ _) p;have O:(wds (b.den/r)).length<=100000000:=au (zY _ _) p;have hx1:=cA a.num (b.den/q);have V:=cA b.num (a.den/q);have I:(wds (ab up)).length<=999999999:=ez (by rw[hup];exact mS _ _) oM;have W:=@cn (a.den/q) (b.den/r);have hLQ:LQ 1000000000 (a+b):=⟨by rw[i];exact au (bH up r C) oM,by rw[j];omega⟩;have ha:=B;have z:=F;refine go Tryz.func13 [(0,qv a),(1,qv b)] rfl (aD (lA 2 39 (qc a) d (fun J w2 h3 d=>lA 3 39 (qc b) d (fun H w5 h6 d=>lA 4 39 a2 d (fun X w8 h9 d=>af (aa d [.o (qv a) 2 0 5] (ao 11 d (cV a aM aM _ _ d.g) (fun _ _ d=>lL d [.c,.o (qv b) 1 0 5] (ao 14 d (d6 b aM aM _ _ d.g) (fun _ _ d=>lL d [.v qF] (aj (cK (cQ ?_)))))))))))));have e:=d;refine cR 8 [⟨7,5,.cells (GX [uV 0,eS]) 35 (0,0)⟩] mixed d (aW (cl kR (fun _ _=>by kernel_rfl)) am) (eO 0 22 [(2,0,5)] (qv a) d (eO 3 25 [(1,0,5)] (qv b) d (ai 1 23 d (fun _ _ d=>dZ a aM _ _ d.g) (fun _ _ d=>ai 2 24 d (fun _ _ d=>du a.den _ _ d.g) (fun _ _ d=>ai 4 26 d (fun _ _ d=>dZ b aM _ _ d.g) (fun _ _ d=>ai 5 27 d (fun _ _ d=>du b.den _ _ d.g) (fun _ _ d=>ai 6 28 d (fun _ _ d=>it (a.den:Int) (b.den:Int) q (by first|assumption|exact hq) (show (wds a.den).length<=1000000000 by first|assumption|omega) (show (wds b.den).length<=1000000000 by first|assumption|omega) _ _ d.g d.f.1) (fun _ _ d=>dm [] e d 35 [uV 0,eS] (fun _ _ K d=>tP 8 0 0 (nc q) d (fun _ d=>tN (cQ ?_)))))))))));have e:=d;refine wQ 10 [⟨8,6,.cells (GX [uV 0,eS]) 35 (0,0)⟩,⟨9,7,.cells (GX [uV 0,eS]) 35 (0,0)⟩] [] mixed d (aW (cl kR (fun _ _=>by kernel_rfl)) (aW (cl kR (fun _ _=>by kernel_rfl)) am)) (eO 0 29 [(3,0,5)] (qv a) d (eO 2 31 [(0,0,2)] (nv q) d (rF 4 33 [(2,0,5)] (qv b) e d (rF 6 35 [(0,0,2)] (nv q) e d (ai 1 30 d (fun _ _ d=>dZ a aM _ _ d.g) (fun _ _ d=>ai 3 32 d (fun _ _ d=>fI a.den q aM bQ bQ _ _ d.g) (fun _ _ d=>ai 5 34 d (fun _ _ d=>dZ b aM _ _ d.g) (fun _ _ d=>ai 7 36 d (fun _ _ d=>fI b.den q aM bQ bQ _ _ d.g) (fun _ _ d=>B6 e d 35 [uV 0,eS] 35 [uV 0,eS] (fun _ _ Y Z x u d=>tP 10 0 0 (nc (a.den/q)) d (fun _ d=>?_) (hz:=eZ x)))))))))));refine tP 11 1 0 (nc (b.den/q)) d (fun _ d=>?_) (hz:=eZ u);refine tN (cQ ?_);have e:=d;refine cR 10 [⟨9,8,.cells (GX [qF,uV 0,eS]) 37 (0,0)⟩] mixed d (aW (cl kR (fun _ _=>by kernel_rfl)) am) (eV 0 37 (pB J) (eO 1 38 [(5,0,3)] (iv a.num) d (eO 2 39 [(1,0,2)] (nv (b.den/q)) d (eV 4 41 (pB H) (eO 5 42 [(4,0,3)] (iv b.num) d (eO 6 43 [(0,0,2)] (nv (a.den/q)) d (ai 3 40 d (fun _ _ d=>fX a.num (b.den/q) bQ _ _ d.g) (fun _ _ d=>ai 7 44 d (fun _ _ d=>fX b.num (a.den/q) bQ _ _ d.g) (fun _ _ d=>ai 8 45 d (fun _ _ d=>xT (a.num*(((b.den/q):Nat):Int)) (b.num*(((a.den/q):Nat):Int)) up hup oM _ _ d.g) (fun _ _ d=>dm [] e d 37 [qF,uV 0,eS] (fun _ _ U d=>tP 10 0 0 (ic up) d (fun _ d=>tN (cQ ?_)))))))))))));have e:=d;refine cR 5 [⟨4,9,.cells (GX [uV 0,eS]) 35 (0,0)⟩] mixed d (aW (cl kR (fun _ _=>by kernel_rfl)) am) (eO 0 46 [(0,0,3)] (iv up) d (eO 1 47 [(3,0,2)] (nv q) d (ai 2 48 d (fun _ _ d=>du q _ _ d.g) (fun _ _ d=>ai 3 49 d (fun _ _ d=>it up (q:Int) r (by first|assumption|exact hr) bQ (show (wds q).length<=1000000000 by first|assumption|omega) _ _ d.g d.f.1) (fun _ _ d=>dm [] e d 35 [uV 0,eS] (fun _ _ zc d=>tP 5 0 0 (nc r) d (fun _ d=>tN (bS [(3,pB H),(4,pB X),(6,pB Y),(8,pB U),(9,pB zc)] ?_))))))));refine cQ (cR 10 [] mixed d am ?_);exact eO 0 50 [(1,0,3)] (iv up) d (eO 1 51 [(0,0,2)] (nv r) d (eO 3 53 [(2,0,2)] (nv (a.den/q)) d (eO 4 54 [(6,0,5)] (qv b) d (eO 6 56 [(0,0,2)] (nv r) d (ai 2 52 d (fun _ _ d=>jz up r aM aM bQ bQ _ _ d.g) (fun _ _ d=>ai 5 55 d (fun _ _ d=>dZ b aM _ _ d.g) (fun _ _ d=>ai 7 57 d (fun _ _ d=>fI b.den r aM bQ bQ _ _ d.g) (fun _ _ d=>ai 8 58 d (fun _ _ d=>mG (a.den/q) (b.den/r) bQ bQ _ _ d.g) (fun _ _ d=>ai 9 59 d (fun _ _ d=>iX (a+b) (up/(r:Int)) ((a.den/q)*(b.den/r)) (by first|assumption|exact i|exact (i).symm) (by first|assumption|exact j.symm) aM _ _ d.g) (fun _ _ d=>bW d (fun _ _ d=>tP 10 5 0 (qc (a+b)) d (fun _ d=>tN (kX (d.ret [(5,0,5)] (qv (a+b)) rfl))))))))))))))
theorem nO (a b:Rat)(ha:LQ 100000000 a)(d:LQ 100000000 b)(w:World)(h:Hp)(g:G w h)(c:Tab h):CV 13 #[qv a,qv b] w h (qv (a+b)):=by
 by_cases h1:a.den=1
 ·by_cases h2:b.den=1
  ·exact Bt a b ha d h1 h2 w h g c
  ·exact BQ a b ha d h1 h2 w h g c
 ·exact AP a b ha d h1 w h g c
theorem Ce (a b:Rat)(ha:LQ 100000000 a)(u:LQ 100000000 b)(i:a.den=1)(f:b.den=1)(w:World)(h:Hp)(g:G w h)(x:Tab h):CV 12 #[qv a,qv b] w h (qv (a*b)):=by
 have e:=((sS g).aB x);have j:=ha;have l:=u;obtain ⟨D,y⟩:=j;obtain ⟨C,B⟩:=l;exact go Tryz.func12 [(0,qv a),(1,qv b)] rfl (aD (lA 2 39 (qc a) e (fun p w2 F e=>lA 3 39 (qc b) e (fun z L K e=>lA 4 39 a2 e (fun H I J e=>af (aa e [.o (qv a) 2 0 5] (ao 8 e (cV a aM aM _ _ e.g) (fun _ _ e=>lL e [.c,.o (qv b) 1 0 5] (ao 11 e (cV b aM aM _ _ e.g) (fun _ _ e=>lL e [.v qT] (ar (aa e [.v (pB p),.o (iv a.num) 2 0 3,.v (pB z),.o (iv b.num) 1 0 3] (ao 17 e (wR a.num b.num bQ _ _ e.g) (fun _ _ e=>lL e [.v (.agg #[.bool (aw (a.num*b.num)),uV (lo (ab (a.num*b.num))),.string (hi (ab (a.num*b.num))),uV 0,eS])] (lP 0 0 ([.bool (aw (a.num*b.num)),uV (lo (ab (a.num*b.num))),.string (hi (ab (a.num*b.num))),uV 0,eS]) e (fun _ e=>ae e [(0,0,5)] (.agg #[.bool (aw (a.num*b.num)),uV (lo (ab (a.num*b.num))),.string (hi (ab (a.num*b.num))),uV 0,eS]) (gK (d:=0) (gB i f).1 (jG (gB i f).2))))))))))))))))))
theorem AR (a b:Rat)(ha:LQ 100000000 a)(p:LQ 100000000 b)(S:a.den≠1)(w:World)(h:Hp)(g:G w h)(K:Tab h):CV 12 #[qv a,qv b] w h (qv (a*b)):=by
 have c:=((sS g).aB K);have x:=ha;have z:=p;obtain ⟨C,i⟩:=ha;obtain ⟨B,j⟩:=p;obtain ⟨q,hq⟩:∃ q,q=GP (ab a.num) b.den:=⟨_,rfl⟩;obtain ⟨r,hr⟩:∃ r,r=GP (ab b.num) a.den:=⟨_,rfl⟩;obtain ⟨d,l,y,u,Q,I⟩:=jr a b q r hq hr;have H:(wds q).length<=100000000:=au (by rw[hq];exact Hk _ b.den_pos) j;have Y:(wds r).length<=100000000:=au (by rw[hr];exact Hk _ a.den_pos) i;have Z:(wds (ab (a.num/(q:Int)))).length<=100000000:=au (bH _ _ y) C;have J:(wds (ab (b.num/(r:Int)))).length<=100000000:=au (bH _ _ u) B;have U:(wds (a.den/r)).length<=100000000:=au (zY _ _) i;have V:(wds (b.den/q)).length<=100000000:=au (zY _ _) j;have M:=@cn (a.den/r) (b.den/q);have W:=f0 (a.num/(q:Int)) (b.num/(r:Int));have hLQ:LQ 1000000000 (a*b):=⟨by rw[d];omega,by rw[l];omega⟩;have ha:=x;have p:=z;refine go Tryz.func12 [(0,qv a),(1,qv b)] rfl (aD (lA 2 39 (qc a) c (fun D w2 h3 c=>lA 3 39 (qc b) c (fun F w5 h6 c=>lA 4 39 a2 c (fun O w8 h9 c=>af (aa c [.o (qv a) 2 0 5] (ao 8 c (d6 a aM aM _ _ c.g) (fun _ _ c=>lL c ac (lG 10 ?_)))))))));refine lG 11 (lL c [.v qF] (aj (cK (cQ ?_))));have e:=c;refine cR 7 [⟨6,5,.cells (GX [uV 0,eS]) 35 (0,0)⟩] mixed c (aW (cl kR (fun _ _=>by kernel_rfl)) am) (eV 0 19 (pB D) (eO 1 20 [(2,0,3)] (iv a.num) c (eO 2 21 [(1,0,5)] (qv b) c (ai 3 22 c (fun _ _ c=>dZ b aM _ _ c.g) (fun _ _ c=>ai 4 23 c (fun _ _ c=>du b.den _ _ c.g) (fun _ _ c=>ai 5 24 c (fun _ _ c=>it a.num (b.den:Int) q (by first|assumption|exact hq) bQ (show (wds b.den).length<=1000000000 by first|assumption|omega) _ _ c.g c.f.1) (fun _ _ c=>dm [] e c 35 [uV 0,eS] (fun _ _ L c=>tP 7 0 0 (nc q) c (fun _ c=>tN (cQ ?_))))))))));have e:=c;refine cR 7 [⟨6,6,.cells (GX [uV 0,eS]) 35 (0,0)⟩] mixed c (aW (cl kR (fun _ _=>by kernel_rfl)) am) (eV 0 25 (pB F) (eO 1 26 [(2,0,3)] (iv b.num) c (eO 2 27 [(3,0,5)] (qv a) c (ai 3 28 c (fun _ _ c=>dZ a aM _ _ c.g) (fun _ _ c=>ai 4 29 c (fun _ _ c=>du a.den _ _ c.g) (fun _ _ c=>ai 5 30 c (fun _ _ c=>it b.num (a.den:Int) r (by first|assumption|exact hr) bQ (show (wds a.den).length<=1000000000 by first|assumption|omega) _ _ c.g c.f.1) (fun _ _ c=>dm [] e c 35 [uV 0,eS] (fun _ _ X c=>tP 7 0 0 (nc r) c (fun _ c=>tN (cQ (cR 19 [] mixed c am ?_)))))))))));refine eV 0 31 (pB D) (eO 1 32 [(4,0,3)] (iv a.num) c (eO 2 33 [(1,0,2)] (nv q) c (eV 4 35 (pB F) (eO 5 36 [(3,0,3)] (iv b.num) c (eO 6 37 [(0,0,2)] (nv r) c (eO 9 40 [(4,0,5)] (qv a) c (eO 11 42 [(0,0,2)] (nv r) c (eO 13 44 [(3,0,5)] (qv b) c (eO 15 46 [(1,0,2)] (nv q) c (ai 3 34 c (fun _ _ c=>jz a.num q aM aM bQ bQ _ _ c.g) (fun _ _ c=>ai 7 38 c (fun _ _ c=>jz b.num r aM aM bQ bQ _ _ c.g) (fun _ _ c=>ai 8 39 c (fun _ _ c=>wR (a.num/(q:Int)) (b.num/(r:Int)) bQ _ _ c.g) (fun _ _ c=>ai 10 41 c (fun _ _ c=>dZ a aM _ _ c.g) (fun _ _ c=>ai 12 43 c (fun _ _ c=>fI a.den r aM bQ bQ _ _ c.g) (fun _ _ c=>ai 14 45 c (fun _ _ c=>dZ b aM _ _ c.g) (fun _ _ c=>ai 16 47 c (fun _ _ c=>fI b.den q aM bQ bQ _ _ c.g) (fun _ _ c=>ai 17 48 c (fun _ _ c=>mG (a.den/r) (b.den/q) bQ bQ _ _ c.g) (fun _ _ c=>ai 18 49 c (fun _ _ c=>iX (a*b) ((a.num/(q:Int))*(b.num/(r:Int))) ((a.den/r)*(b.den/q)) (by first|assumption|exact d|exact (d).symm) (by first|assumption|exact l.symm) aM _ _ c.g) (fun _ _ c=>bW c (fun _ _ c=>tP 19 2 0 (qc (a*b)) c (fun _ c=>tN (bS [(4,pB O)] ?_))))))))))))))))))))));exact kX (c.ret [(2,0,5)] (qv (a*b)) rfl)
theorem Ay (a b:Rat)(ha:LQ 100000000 a)(u:LQ 100000000 b)(W:a.den=1)(K:b.den≠1)(w:World)(h:Hp)(g:G w h)(O:Tab h):CV 12 #[qv a,qv b] w h (qv (a*b)):=by
 have d:=((sS g).aB O);have y:=ha;have B:=u;obtain ⟨D,j⟩:=ha;obtain ⟨C,l⟩:=u;obtain ⟨q,hq⟩:∃ q,q=GP (ab a.num) b.den:=⟨_,rfl⟩;obtain ⟨r,hr⟩:∃ r,r=GP (ab b.num) a.den:=⟨_,rfl⟩;obtain ⟨e,p,z,x,V,L⟩:=jr a b q r hq hr;have I:(wds q).length<=100000000:=au (by rw[hq];exact Hk _ b.den_pos) l;have hrl:(wds r).length<=100000000:=au (by rw[hr];exact Hk _ a.den_pos) j;have haq:(wds (ab (a.num/(q:Int)))).length<=100000000:=au (bH _ _ z) D;have M:(wds (ab (b.num/(r:Int)))).length<=100000000:=au (bH _ _ x) C;have X:(wds (a.den/r)).length<=100000000:=au (zY _ _) j;have Y:(wds (b.den/q)).length<=100000000:=au (zY _ _) l;have S:=@cn (a.den/r) (b.den/q);have Z:=f0 (a.num/(q:Int)) (b.num/(r:Int));have hLQ:LQ 1000000000 (a*b):=⟨by rw[e];omega,by rw[p];omega⟩;have ha:=y;have u:=B;refine go Tryz.func12 [(0,qv a),(1,qv b)] rfl (aD (lA 2 39 (qc a) d (fun F w2 h3 d=>lA 3 39 (qc b) d (fun H w5 h6 d=>lA 4 39 a2 d (fun U w8 h9 d=>af (aa d [.o (qv a) 2 0 5] (ao 8 d (cV a aM aM _ _ d.g) (fun _ _ d=>lL d [.c,.o (qv b) 1 0 5] (ao 11 d (d6 b aM aM _ _ d.g) (fun _ _ d=>lL d [.v qF] (aj (cK (cQ ?_)))))))))))));have i:=d;refine cR 7 [⟨6,5,.cells (GX [uV 0,eS]) 35 (0,0)⟩] mixed d (aW (cl kR (fun _ _=>by kernel_rfl)) am) (eV 0 19 (pB F) (eO 1 20 [(2,0,3)] (iv a.num) d (eO 2 21 [(1,0,5)] (qv b) d (ai 3 22 d (fun _ _ d=>dZ b aM _ _ d.g) (fun _ _ d=>ai 4 23 d (fun _ _ d=>du b.den _ _ d.g) (fun _ _ d=>ai 5 24 d (fun _ _ d=>it a.num (b.den:Int) q (by first|assumption|exact hq) bQ (show (wds b.den).length<=1000000000 by first|assumption|omega) _ _ d.g d.f.1) (fun _ _ d=>dm [] i d 35 [uV 0,eS] (fun _ _ Q d=>tP 7 0 0 (nc q) d (fun _ d=>tN (cQ ?_))))))))));have i:=d;refine cR 7 [⟨6,6,.cells (GX [uV 0,eS]) 35 (0,0)⟩] mixed d (aW (cl kR (fun _ _=>by kernel_rfl)) am) (eV 0 25 (pB H) (eO 1 26 [(2,0,3)] (iv b.num) d (eO 2 27 [(3,0,5)] (qv a) d (ai 3 28 d (fun _ _ d=>dZ a aM _ _ d.g) (fun _ _ d=>ai 4 29 d (fun _ _ d=>du a.den _ _ d.g) (fun _ _ d=>ai 5 30 d (fun _ _ d=>it b.num (a.den:Int) r (by first|assumption|exact hr) bQ (show (wds a.den).length<=1000000000 by first|assumption|omega) _ _ d.g d.f.1) (fun _ _ d=>dm [] i d 35 [uV 0,eS] (fun _ _ J d=>tP 7 0 0 (nc r) d (fun _ d=>tN (cQ (cR 19 [] mixed d am ?_)))))))))));refine eV 0 31 (pB F) (eO 1 32 [(4,0,3)] (iv a.num) d (eO 2 33 [(1,0,2)] (nv q) d (eV 4 35 (pB H) (eO 5 36 [(3,0,3)] (iv b.num) d (eO 6 37 [(0,0,2)] (nv r) d (eO 9 40 [(4,0,5)] (qv a) d (eO 11 42 [(0,0,2)] (nv r) d (eO 13 44 [(3,0,5)] (qv b) d (eO 15 46 [(1,0,2)] (nv q) d (ai 3 34 d (fun _ _ d=>jz a.num q aM aM bQ bQ _ _ d.g) (fun _ _ d=>ai 7 38 d (fun _ _ d=>jz b.num r aM aM bQ bQ _ _ d.g) (fun _ _ d=>ai 8 39 d (fun _ _ d=>wR (a.num/(q:Int)) (b.num/(r:Int)) bQ _ _ d.g) (fun _ _ d=>ai 10 41 d (fun _ _ d=>dZ a aM _ _ d.g) (fun _ _ d=>ai 12 43 d (fun _ _ d=>fI a.den r aM bQ bQ _ _ d.g) (fun _ _ d=>ai 14 45 d (fun _ _ d=>dZ b aM _ _ d.g) (fun _ _ d=>ai 16 47 d (fun _ _ d=>fI b.den q aM bQ bQ _ _ d.g) (fun _ _ d=>ai 17 48 d (fun _ _ d=>mG (a.den/r) (b.den/q) bQ bQ _ _ d.g) (fun _ _ d=>ai 18 49 d (fun _ _ d=>iX (a*b) ((a.num/(q:Int))*(b.num/(r:Int))) ((a.den/r)*(b.den/q)) (by first|assumption|exact e|exact (e).symm) (by first|assumption|exact p.symm) aM _ _ d.g) (fun _ _ d=>bW d (fun _ _ d=>tP 19 2 0 (qc (a*b)) d (fun _ d=>tN (bS [(4,pB U)] ?_))))))))))))))))))))));exact kX (d.ret [(2,0,5)] (qv (a*b)) rfl)
theorem ib (a b:Rat)(ha:LQ 100000000 a)(d:LQ 100000000 b)(w:World)(h:Hp)(g:G w h)(c:Tab h):CV 12 #[qv a,qv b] w h (qv (a*b)):=by
 by_cases h1:a.den=1
 ·by_cases h2:b.den=1
  ·exact Ce a b ha d h1 h2 w h g c
  ·exact Ay a b ha d h1 h2 w h g c
 ·exact AR a b ha d h1 w h g c
theorem LQ.neg {k:Nat}{a:Rat}(h:LQ k a):LQ k (-a):=⟨by rw[Hi];unfold ab;rw[Hm];exact h.1,by rw[Hj];exact h.2⟩
theorem LQ.add {k l:Nat}{a b:Rat}(ha:LQ k a)(i:LQ l b):LQ (k+l+1) (a+b):=by
 obtain ⟨F,e⟩:=ha;obtain ⟨D,c⟩:=i;obtain ⟨q,hq⟩:∃ q,q=GP a.den b.den:=⟨_,rfl⟩;obtain ⟨up,hup⟩:∃ up,up=a.num*((b.den/q:Nat):Int)+b.num*((a.den/q:Nat):Int):=⟨_,rfl⟩;obtain ⟨r,hr⟩:∃ r,r=GP (ab up) q:=⟨_,rfl⟩;obtain ⟨d,h,f,j,o,y⟩:=jj a b q r up hq hup hr;have B:=au (zY a.den q) e;have z:=au (zY b.den q) c;have p:=au (zY b.den r) c;have C:=cA a.num (b.den/q);have u:=cA b.num (a.den/q);have x:=@cn (a.den/q) (b.den/r);refine ⟨?_,by rw[h];omega⟩;rw[d];refine au (bH up r f) ?_;rw[hup];exact ez (bV (show ab _<=ab _+ab _ from Hl _ _)) (nz oM oM)
theorem LQ.mul {k l:Nat}{a b:Rat}(ha:LQ k a)(u:LQ l b):LQ (k+l) (a*b):=by
 obtain ⟨o,c⟩:=ha;obtain ⟨e,i⟩:=u;obtain ⟨d,j,f,h,p,y⟩:=jr a b _ _ rfl rfl;refine ⟨?_,?_⟩
 ·rw[d]
  have h1:=au (bH _ _ f) o;have x:=au (bH _ _ h) e;exact ez (f0 _ _) oM
 ·rw[j]
  have h1:=au (zY a.den (GP (ab b.num) a.den)) c;have x:=au (zY b.den (GP (ab a.num) b.den)) i;exact ez cn oM
theorem LQ.mono {k l:Nat}{a:Rat}(h:LQ k a)(b:k<=l):LQ l a:=⟨ez h.1 b,ez h.2 b⟩
def dx (a b:Rat):Int:=dJ (a.num*b.den) (b.num*a.den)
theorem eh {a b:Rat}(h1:a.den=1)(c:b.den=1):dJ a.num b.num=dx a b:=by unfold dx;rw[h1,c];simp
theorem fg {a b:Rat}(h:(a.num.sign != b.num.sign)=true):dJ a.num b.num=dx a b:=by
 have h:a.num.sign≠b.num.sign:=by simpa using h
 have ha:=a.den_pos;have e:=b.den_pos
 unfold dx dJ
 rcases G3 a.num 0 with p|p|p<;>rcases G3 b.num 0 with q|q|q
 ·exact absurd (by rw[GL p,GL q]) h
 ·have:a.num*(b.den:Int)<0:=Hn p oM
  rw[q];simp;rw[if_pos p,if_pos this]
 ·have c:a.num*(b.den:Int)<0:=Hn p oM
  have d:0<b.num*(a.den:Int):=Ho q oM;rw[if_pos oM,if_pos oM]
 ·have:b.num*(a.den:Int)<0:=Hn q oM
  rw[p];simp;rw[if_neg oM,if_pos q,if_neg oM,if_pos this]
 ·exact absurd (by rw[p,q]) h
 ·have:0<b.num*(a.den:Int):=Ho q oM
  rw[p];simp;rw[if_pos q,if_pos this]
 ·have c:0<a.num*(b.den:Int):=Ho p oM
  have d:b.num*(a.den:Int)<0:=Hn q oM;rw[if_neg oM,if_pos oM,if_neg oM,if_pos oM]
 ·have:0<a.num*(b.den:Int):=Ho p oM
  rw[q];simp;rw[if_neg oM,if_pos p,if_neg oM,if_pos this]
 ·exact absurd (by rw[GM p,GM q]) h
theorem BC (a b:Rat)(ha:LQ 100000000 a)(l:LQ 100000000 b)(f:a.den=1)(d:b.den=1)(w:World)(h:Hp)(g:G w h):CV 14 #[qv a,qv b] w h (iV (dx a b)):=by
 have c:=sS g;have e:=ha;have i:=l;obtain ⟨C,p⟩:=e;obtain ⟨B,y⟩:=i;have z:=cA a.num b.den;have u:=cA b.num a.den;refine go Tryz.func14 [(0,qv a),(1,qv b)] rfl (aD (lA 2 39 (qc a) c (fun j w2 F c=>lA 3 39 (qc b) c (fun x J I c=>lL c ac (af (cQ (cR 13 [] mixed c am ?_)))))));exact eO 0 5 [(1,0,5)] (qv a) c (ai 1 6 c (fun _ _ c=>cV a aM aM _ _ c.g) (fun H D c=>eV 2 7 qT (eO 3 8 [(0,0,5)] (qv b) c (ai 4 9 c (fun _ _ c=>cV b aM aM _ _ c.g) (fun K _ c=>eV 5 10 qT (eV 6 11 qT (eG 7 12 (eG 8 13 (eG 9 14 (eG 10 15 (eG 11 16 (eV 12 17 qT (bW c (fun _ _ c=>tN (bY (aa c [.v (pB j),.o (iv a.num) 1 0 3,.v (pB x),.o (iv b.num) 0 0 3] (ao 22 c (sn a.num b.num bQ bQ _ _ c.g) (fun _ _ c=>lL c ac (ae c [] (iV (dJ a.num b.num)) (congrArg (Value.int .i64) (by first|rfl|exact eh f d|exact fg ‹_›)))))))))))))))))))))
theorem AE (a b:Rat)(ha:LQ 100000000 a)(p:LQ 100000000 b)(d:a.den≠1)(w:World)(h:Hp)(g:G w h):CV 14 #[qv a,qv b] w h (iV (dx a b)):=by
 have c:=sS g;have f:=ha;have i:=p;obtain ⟨D,u⟩:=f;obtain ⟨C,z⟩:=i;have B:=cA a.num b.den;have y:=cA b.num a.den;refine go Tryz.func14 [(0,qv a),(1,qv b)] rfl (aD (lA 2 39 (qc a) c (fun j w2 H c=>lA 3 39 (qc b) c (fun l K J c=>lL c ac (af (cQ (cR 13 [] mixed c am ?_)))))));refine eO 0 5 [(1,0,5)] (qv a) c (ai 1 6 c (fun _ _ c=>d6 a aM aM _ _ c.g) (fun I F c=>eV 2 7 qF (eG 3 8 (eG 4 9 (eV 5 10 qF (eV 6 11 qF (eO 7 12 [(1,0,5)] (qv a) c (eO 9 14 [(0,0,5)] (qv b) c (ai 8 13 c (fun _ _ c=>gI a aM _ _ c.g) (fun L _ c=>ai 10 15 c (fun _ _ c=>gI b aM _ _ c.g) (fun _ _ c=>?_)))))))))));cases e:(((a.num).sign:Int) != ((b.num).sign:Int))
 .
  have x:=aJ e;refine eB 11 16 e (eV 12 17 qF (bW c (fun _ _ c=>tN (cG (cK (cQ (cR 11 [] mixed c am ?_)))))));exact eV 0 23 (pB j) (eO 1 24 [(1,0,3)] (iv a.num) c (eO 2 25 [(0,0,5)] (qv b) c (eV 5 28 (pB l) (eO 6 29 [(0,0,3)] (iv b.num) c (eO 7 30 [(1,0,5)] (qv a) c (ai 3 26 c (fun _ _ c=>dZ b aM _ _ c.g) (fun _ _ c=>ai 4 27 c (fun _ _ c=>fX a.num b.den bQ _ _ c.g) (fun _ _ c=>ai 8 31 c (fun _ _ c=>dZ a aM _ _ c.g) (fun _ _ c=>ai 9 32 c (fun _ _ c=>fX b.num a.den bQ _ _ c.g) (fun _ _ c=>ai 10 33 c (fun _ _ c=>sn (a.num*(b.den:Int)) (b.num*(a.den:Int)) bQ bQ _ _ c.g) (fun _ _ c=>bW c (fun _ _ c=>tV 11 4 (iV (dJ (a.num*(b.den:Int)) (b.num*(a.den:Int)))) (tN (kX (c.ret [] (iV (dJ (a.num*(b.den:Int)) (b.num*(a.den:Int)))) (congrArg (Value.int .i64) (by first|rfl|exact eh d hwb|exact fg ‹_›)))))))))))))))))
 have x:=aU e;exact eB 11 16 e (eV 12 17 qT (bW c (fun _ _ c=>tN (bY (aa c [.v (pB j),.o (iv a.num) 1 0 3,.v (pB l),.o (iv b.num) 0 0 3] (ao 22 c (sn a.num b.num bQ bQ _ _ c.g) (fun _ _ c=>lL c ac (ae c [] (iV (dJ a.num b.num)) (congrArg (Value.int .i64) (by first|rfl|exact eh d hwb|exact fg ‹_›))))))))))
theorem Bq (a b:Rat)(ha:LQ 100000000 a)(u:LQ 100000000 b)(e:a.den=1)(d:b.den≠1)(w:World)(h:Hp)(g:G w h):CV 14 #[qv a,qv b] w h (iV (dx a b)):=by
 have c:=sS g;have i:=ha;have j:=u;obtain ⟨F,x⟩:=i;obtain ⟨D,B⟩:=j;have C:=cA a.num b.den;have z:=cA b.num a.den;refine go Tryz.func14 [(0,qv a),(1,qv b)] rfl (aD (lA 2 39 (qc a) c (fun l w2 I c=>lA 3 39 (qc b) c (fun p L K c=>lL c ac (af (cQ (cR 13 [] mixed c am ?_)))))));refine eO 0 5 [(1,0,5)] (qv a) c (ai 1 6 c (fun _ _ c=>cV a aM aM _ _ c.g) (fun J H c=>eV 2 7 qT (eO 3 8 [(0,0,5)] (qv b) c (ai 4 9 c (fun _ _ c=>d6 b aM aM _ _ c.g) (fun M _ c=>eV 5 10 qF (eV 6 11 qF (eO 7 12 [(1,0,5)] (qv a) c (eO 9 14 [(0,0,5)] (qv b) c (ai 8 13 c (fun _ _ c=>gI a aM _ _ c.g) (fun _ _ c=>ai 10 15 c (fun _ _ c=>gI b aM _ _ c.g) (fun _ _ c=>?_)))))))))));cases f:(((a.num).sign:Int) != ((b.num).sign:Int))
 .
  have y:=aJ f;refine eB 11 16 f (eV 12 17 qF (bW c (fun _ _ c=>tN (cG (cK (cQ (cR 11 [] mixed c am ?_)))))));exact eV 0 23 (pB l) (eO 1 24 [(1,0,3)] (iv a.num) c (eO 2 25 [(0,0,5)] (qv b) c (eV 5 28 (pB p) (eO 6 29 [(0,0,3)] (iv b.num) c (eO 7 30 [(1,0,5)] (qv a) c (ai 3 26 c (fun _ _ c=>dZ b aM _ _ c.g) (fun _ _ c=>ai 4 27 c (fun _ _ c=>fX a.num b.den bQ _ _ c.g) (fun _ _ c=>ai 8 31 c (fun _ _ c=>dZ a aM _ _ c.g) (fun _ _ c=>ai 9 32 c (fun _ _ c=>fX b.num a.den bQ _ _ c.g) (fun _ _ c=>ai 10 33 c (fun _ _ c=>sn (a.num*(b.den:Int)) (b.num*(a.den:Int)) bQ bQ _ _ c.g) (fun _ _ c=>bW c (fun _ _ c=>tV 11 4 (iV (dJ (a.num*(b.den:Int)) (b.num*(a.den:Int)))) (tN (kX (c.ret [] (iV (dJ (a.num*(b.den:Int)) (b.num*(a.den:Int)))) (congrArg (Value.int .i64) (by first|rfl|exact eh e d|exact fg ‹_›)))))))))))))))))
 have y:=aU f;exact eB 11 16 f (eV 12 17 qT (bW c (fun _ _ c=>tN (bY (aa c [.v (pB l),.o (iv a.num) 1 0 3,.v (pB p),.o (iv b.num) 0 0 3] (ao 22 c (sn a.num b.num bQ bQ _ _ c.g) (fun _ _ c=>lL c ac (ae c [] (iV (dJ a.num b.num)) (congrArg (Value.int .i64) (by first|rfl|exact eh e d|exact fg ‹_›))))))))))
theorem tE (a b:Rat)(ha:LQ 100000000 a)(c:LQ 100000000 b)(w:World)(h:Hp)(g:G w h):CV 14 #[qv a,qv b] w h (iV (dx a b)):=by
 by_cases h1:a.den=1
 ·by_cases h2:b.den=1
  ·exact BC a b ha c h1 h2 w h g
  ·exact Bq a b ha c h1 h2 w h g
 ·exact AE a b ha c h1 w h g
theorem jg {a b:Rat}:dx a b<0↔a<b:=by
 unfold dx dJ
 rw[Rat.lt_iff]
 split
 ·simp;assumption
 ·split<;>simp<;>omega
theorem ji {a b:Rat}:dx a b>0↔b<a:=by
 unfold dx dJ
 rw[Rat.lt_iff]
 split
 ·simp;omega
 ·split<;>simp<;>omega
def mkR (n d:Int):Rat:=mkRat (if d<0 then -n else n) (ab d)
theorem AN (n d:Int)(i:d<0)(c:(wds (ab n)).length<=1000000000)(l:(wds (ab d)).length<=1000000000)(w:World)(h:Hp)(g:G w h)(x:Tab h):CV 48 #[iv n,iv d] w h (.tuple #[qv (mkR n d),.bool true]):=by
 have a:=((sS g).aB x);have u:=GL i;have z:0<ab d:=by unfold ab;omega
 have B:(wds (ab (-n))).length<=1000000000:=by unfold ab;rw[Hm];exact c
 refine go Tryz.func48 [(0,iv n),(1,iv d)] rfl (aD (lA 2 37 (ic n) a (fun C w2 D a=>lA 3 37 (ic d) a (fun F L K a=>lA 4 39 a2 a (fun H I J a=>lL a ac (af (aa a [.o (iv d) 1 0 3] (ao 7 a (jT d bQ _ _ a.g) (fun _ _ a=>?_)))))))));have j:(((d).sign:Int) == (0:Int))=false:=e9 oM;have e:=aq j;refine lB 8 j (aj (cK (cQ (aa a [.o (iv d) 1 0 3] (ao 11 a (jT d bQ _ _ a.g) (fun _ _ a=>?_))))));have ⟨y,b⟩:=dT (p:=((d).sign:Int)<(0:Int)) oM;refine lB 12 y (ar (kQ (lL a [.o (iv n) 2 0 3] (ao 14 a (Dh n bQ _ _ a.g) (fun _ _ a=>lP 2 0 (ic (-n)) a (fun _ a=>af (cR 4 [] mixed a am ?_)))))));exact eO 0 15 [(2,0,3)] (iv (-n)) a (eO 1 16 [(1,0,3)] (iv d) a (ai 2 17 a (fun _ _ a=>sV d _ _ a.g) (fun _ _ a=>ai 3 18 a (fun _ _ a=>pK (-n) (ab d) bQ bQ bQ _ _ a.g a.f.1) (fun _ _ a=>bW a (fun _ _ a=>tP 4 0 0 (qc (mkRat (-n) (ab d))) a (fun _ a=>tV 5 5 qT (tN (kX (a.ret [(0,0,5)] (.tuple #[qv (mkRat (-n) (ab d)),qT]) (by unfold mkR;rw[if_pos i]))))))))))
theorem Bv (n d:Int)(l:0<d)(y:(wds (ab n)).length<=1000000000)(i:(wds (ab d)).length<=1000000000)(w:World)(h:Hp)(g:G w h)(u:Tab h):CV 48 #[iv n,iv d] w h (.tuple #[qv (mkR n d),.bool true]):=by
 have a:=((sS g).aB u);have j:=GM l;have z:0<ab d:=by unfold ab;omega
 refine go Tryz.func48 [(0,iv n),(1,iv d)] rfl (aD (lA 2 37 (ic n) a (fun B w2 C a=>lA 3 37 (ic d) a (fun D K J a=>lA 4 39 a2 a (fun F H I a=>lL a ac (af (aa a [.o (iv d) 1 0 3] (ao 7 a (jT d bQ _ _ a.g) (fun _ _ a=>?_)))))))));have e:(((d).sign:Int) == (0:Int))=false:=e9 oM;have c:=aq e;refine lB 8 e (aj (cK (cQ (aa a [.o (iv d) 1 0 3] (ao 11 a (jT d bQ _ _ a.g) (fun _ _ a=>?_))))));have ⟨x,b⟩:=dF (p:=((d).sign:Int)<(0:Int)) oM;refine lB 12 x (aj (cK (cQ (cR 4 [] mixed a am ?_))));exact eO 0 15 [(2,0,3)] (iv n) a (eO 1 16 [(1,0,3)] (iv d) a (ai 2 17 a (fun _ _ a=>sV d _ _ a.g) (fun _ _ a=>ai 3 18 a (fun _ _ a=>pK n (ab d) bQ bQ bQ _ _ a.g a.f.1) (fun _ _ a=>bW a (fun _ _ a=>tP 4 0 0 (qc (mkRat n (ab d))) a (fun _ a=>tV 5 5 qT (tN (kX (a.ret [(0,0,5)] (.tuple #[qv (mkRat n (ab d)),qT]) (by unfold mkR;rw[if_neg oM]))))))))))
theorem De (n d:Int)(e:d≠0)(b:(wds (ab n)).length<=1000000000)(a:(wds (ab d)).length<=1000000000)(w:World)(h:Hp)(g:G w h)(c:Tab h):CV 48 #[iv n,iv d] w h (.tuple #[qv (mkR n d),.bool true]):=by
 rcases G3 d 0 with h1|h1|h1
 ·exact AN n d h1 b a w h g c
 ·exact absurd h1 e
 ·exact Bv n d h1 b a w h g c
theorem AA (a b:Rat)(ha:LQ 100000000 a)(C:LQ 100000000 b)(hz:b.num≠0)(w:World)(h:Hp)(g:G w h)(D:Tab h):CV 254 #[qv a,qv b] w h (.tuple #[qv (a/b),.bool true]):=by
 have c:=((sS g).aB D);have j:=ha;have u:=C;obtain ⟨I,F⟩:=j;obtain ⟨z,y⟩:=u;have x:((b.num).sign == (0:Int))=false:=by simpa using hz
 obtain ⟨d,i⟩:=pH b hz;have l:(wds (ab (bT (decide ((b.num).sign<(0:Int))) b.den))).length<=100000000:=by rw[dP];exact y
 have p:LQ 100000000 b⁻¹:=⟨by rw[d];exact l,by rw[i];exact z⟩;have B:LQ 1000000000 b⁻¹:=p.mono oM;refine go Tryz.func254 [(0,qv a),(1,qv b)] rfl (aD (lA 2 39 (qc a) c (fun J w2 K c=>lA 3 39 (qc b) c (fun H S Q c=>lA 4 39 a2 c (fun L M O c=>lL c ac (af (aa c [.o (qv b) 1 0 5] (ao 7 c (gI b aM _ _ c.g) (fun _ _ c=>lV 8 qF ?_ (hr:=rb (e:=((b.num).sign == (0:Int))) kR x))))))))));refine aj (cK (cQ (cR 12 [] mixed c am ?_)));exact eO 0 10 [(2,0,5)] (qv a) c (eO 1 11 [(1,0,5)] (qv b) c (eO 4 14 [(1,0,5)] (qv b) c (eV 7 17 (pB H) (eO 8 18 [(1,0,3)] (iv b.num) c (ai 2 12 c (fun _ _ c=>gI b aM _ _ c.g) (fun _ _ c=>eV 3 13 (.bool (decide (((b.num).sign:Int)<(0:Int)))) (ai 5 15 c (fun _ _ c=>dZ b aM _ _ c.g) (fun _ _ c=>ai 6 16 c (fun _ _ c=>ek (decide (((b.num).sign:Int)<(0:Int))) b.den bQ _ _ c.g) (fun _ _ c=>ai 9 19 c (fun _ _ c=>sV b.num _ _ c.g) (fun _ _ c=>ai 10 20 c (fun _ _ c=>iX b⁻¹ (bT (decide (((b.num).sign:Int)<(0:Int))) b.den) (ab b.num) d i.symm aM _ _ c.g) (fun _ _ c=>ai 11 21 c (fun _ _ c=>ib a (b⁻¹) aM aM _ _ c.g c.f.1) (fun _ _ c=>bW c (fun _ _ c=>tP 12 0 0 (qc (a*(b⁻¹))) c (fun _ c=>tV 13 5 qT (tN (kX (c.ret [(0,0,5)] (.tuple #[qv (a*(b⁻¹)),qT]) (by rw[Rat.div_def]))))))))))))))))))
theorem qH (n d:Int)(h:d≠0):(mkR n d).num=bT (aw n != aw d) (ab n/GP (ab n) (ab d))/\(mkR n d).den=ab d/GP (ab n) (ab d)/\0<GP (ab n) (ab d):=by
  have c:0<ab d:=by unfold ab;omega
  have hz:ab (if d<0 then -n else n)=ab n:=by unfold ab;split<;>omega
  obtain ⟨h1,j,i,f⟩:=fQ (if d<0 then -n else n) (ab d) c;rw[hz] at h1 j i f
  refine ⟨?_,j,f⟩;have l:=nI _ _ i;rw[hz] at l
  show (mkRat _ _).num=_
  rw[h1,<-l]
  by_cases hn:n=0
  . have hk:ab n/GP (ab n) (ab d)=0:=by rw[hn];exact Nat.zero_div _
    rw[hk]
    unfold bT
    simp
  . have e:decide ((if d<0 then -n else n).sign<0)=(aw n != aw d):=by
      unfold aw
      rcases G3 n 0 with a|a|a
      . rcases G3 d 0 with b|b|b
        . rw[if_pos b,GM oM];simp[a,b]
        . exact absurd b h
        . rw[if_neg oM,GL a];simp[a,show ¬d<0 by omega]
      . exact absurd a hn
      . rcases G3 d 0 with b|b|b
        . rw[if_pos b,GL oM];simp[show ¬n<0 by omega,b]
        . exact absurd b h
        . rw[if_neg oM,GM a];simp[show ¬n<0 by omega,show ¬d<0 by omega]
    rw[e]
theorem rp {z:Int}(h0 : -9223372036854775808<=z)(h1:z<9223372036854775808):(lim (ab z)).length<=2:=fF (by unfold ab;omega)
theorem FZ (z:Int)(h0 : -9223372036854775808<=z)(h1:z<9223372036854775808)(w:World)(h:Hp)(g:G w h):CR 18 #[iV z] w h (fun v h1=>RQ h1 v (z:Rat)):=by
 have a:=sS g;refine go Tryz.func18 [(0,iV z)] rfl (aD (lA 2 28 ea a (fun p w2 u a=>aK (lL a ac (lC 4 a (oR z oM oM _ _ a.g) ?_)))));rintro _ x y a ⟨j,b,rfl,i,d⟩;replace a:=a.aS d;refine lC 5 a (l7 1 oM _ _ a.g) ?_;rintro _ _ _ a ⟨e,c,rfl,l,o⟩;replace a:=a.aS o;exact lL a [.v (.agg #[.bool (aw z),qS j ((lim (ab z)).length) b,qS e ((lim 1).length) c])] (lP 0 0 ([.bool (aw z),qS j ((lim (ab z)).length) b,qS e ((lim 1).length) c]) a (fun _ a=>ae a [(0,0,3)] (.agg #[.bool (aw z),qS j ((lim (ab z)).length) b,qS e ((lim 1).length) c]) (by unfold RQ;rw[Hg,Hh];exact ⟨_,_,_,_,rfl,i,l,a.f.2.1,a.f.1⟩)))
theorem CC {P:Program}{Γ:bO}{o:Oper}{t u:TypeId}{x y:Operand}{k ky:IntKind}{a n:Nat}(b:o.op=.binOp .shr t x y u)(d:ev Γ x=.int k (a:Int))(c:ev Γ y=.int ky (n:Int))(e:n<=k.bits)(w:World) :
  (execOp (ev Γ) o).run P w=.ok (.value (.int k ((a/2^n:Nat):Int))) w:=by
 have:=DF (P:=P) b d c e w;rw[show ((a:Int)/2^n)=((a/2^n:Nat):Int) by simp] at this
 exact this
theorem t8 {P:Program}{Γ:bO}{o:Oper}{t u:TypeId}{x y:Operand}{ky:IntKind}{a n:Nat}(b:o.op=.binOp .shl t x y u)(d:ev Γ x=.int .u32 (a:Int))(c:ev Γ y=.int ky (n:Int))(e:n<=32)(hf:a*2^n<4294967296)(w:World) :
  (execOp (ev Γ) o).run P w=.ok (.value (.int .u32 ((a*2^n:Nat):Int))) w:=by
 have:=Ee (P:=P) b d c e w;rw[show ((a:Int)*2^n)=((a*2^n:Nat):Int) by simp,DG hf] at this
 exact this
theorem qN (a:Nat)(A:Z9)(c:Nat)(X:(lim a).length<=c)(F:(lim a).length<=4000000000)(w:World)(h:Hp)(g:G w h)(hA:S3 A (lim a) h):CR 84 #[.slice A ((lim a).length) c] w h (fun v h1=>∃ A,v=.slice A ((nb a+7)/8) ((nb a+7)/8)/\SlO 1 kp 0 h1 A (eg a ((nb a+7)/8))):=by
 have e:=((sS g).aS hA);have S:=n9 a;refine go Tryz.func84 [(0,qS A ((lim a).length) c)] rfl (aa e ac (aK (lL e ac (ao 7 e (uO a A c X F _ _ e.g e.f.1) (fun w1 h2 e=>bA 8 ((nb a:Nat)+7) ((nb a)+7) (lV 9 (nV (((nb a)+7)/8)) ?_ (hr:=aY (db (t:=3) (u:=3) (x:=.tmp 8) (y:=.const (iV 8)) (k:=.i64) (a:=(((nb a)+7:Nat):Int)) (b:=(8:Int)) kR kR kR oM _) (cM ((nb a)+7) 8 oM))))))));refine lL e ac (aK (lL e ac (lK 11 5 (((nb a)+7)/8:Nat) 1 1 (.int .u8 0) kp 0 e (fun p w4 Q e=>?_))));have H:(yJ (((nb a)+7)/8:Nat) 0).length=(((nb a)+7)/8:Nat):=by simp
 refine lL e ac (af (aa e ac (ba ?_)));refine bS _ (CG.loop (fun I Γ U=>∃ (i:Nat)(l:List Nat)(h_:Hp),I=((nb a+7)/8)-i/\Γ=[(0,qS A ((lim a).length) c),(2,sZ),(3,nV (((nb a)+7)/8)),(4,qS (sB p) (((nb a)+7)/8:Nat) (((nb a)+7)/8:Nat)),(5,nV i)]/\SS w h U h_ [⟨p,5,(l).flatMap kp⟩] [] [S3 A (lim a)]/\i<=((nb a+7)/8)/\l.length=((nb a+7)/8)/\(∀ j,j<i->l.getD (((nb a+7)/8)-1-j) 0=a/256^j%256)) _ ⟨0,yJ (((nb a)+7)/8:Nat) 0,Q,rfl,rfl,e.to _ _,GA _,H,(fun j K=>absurd K oM)⟩ ?_);rintro _ _ w7 ⟨i,l,O,Y,rfl,e,hi,z,J⟩;have hai:=(Ld.lim a).get (i/4);refine cQ (aa e aF ?_);cases C:(decide ((i:Int)<((((nb a)+7)/8:Nat):Int)))
 .
  have V:=oF C;refine lB 14 C (aj (CG.exit ?_))
  show CG _ _ _ _ _ _ _ _
  refine aa e aF (lN (kX ?_));have W:i=((nb a+7)/8):=by omega
  have D:l=eg a ((nb a+7)/8):=o3 z (fun j K=>J j oM);rw[D] at e
  obtain ⟨_,e,B,L,M⟩:=e.pub 0;replace e:=(e.to [] []).aS (SlO.of_flat (sz:=1) (f:=kp) (d:=0) (b:=p) (o:=0) (l:=eg a ((nb a+7)/8)) (fun _=>rfl) B);exact e.ret [] (qS (sB p) (((nb a)+7)/8:Nat) (((nb a)+7)/8:Nat)) (⟨sB p,rfl,e.f.1⟩)
 have V:=oT C;refine lB 14 C (ar (cK (cQ (kZ (kQ (lL e aF (bA 19 ((((nb a)+7)/8:Nat)-1) ((((nb a)+7)/8:Nat)-1) ?_)))))));refine lL e ac (bA 21 (((((nb a)+7)/8:Nat)-1:Nat)-(i:Nat)) (((((nb a)+7)/8:Nat)-1:Nat)-i) ?_);refine lL e aF (lV 24 (nV (i/4)) ?_ (hr:=aY (db (t:=3) (u:=3) (x:=.tmp 23) (y:=.const (iV 4)) (k:=.i64) (a:=(i:Int)) (b:=(4:Int)) kR kR kR oM _) (cM i 4 oM)));refine lX 25 A ((lim a).length) c 1 (i/4:Nat) (i/4) ((e.f.1).ok oM) (lH 26 (mW ((lim a).getD (i/4) 0)) e ((e.f.1).el (i/4) oM) (lL e ac (lV 28 (nV (i%4)) ?_ (hr:=aY (eT (t:=3) (u:=3) (x:=.tmp 27) (y:=.const (iV 4)) (k:=.i64) (a:=(i:Int)) (b:=(4:Int)) kR kR kR oM _) (cX i 4)))));refine bA 29 (8*(i%4:Nat)) (8*(i%4)) (lV 30 (mV (8*(i%4))) ?_ (hr:=rU (((8*(i%4):Nat):Int)) kR (bD oM oM)));refine lV 31 (mW ((lim a).getD (i/4) 0/2^(8*(i%4)))) ?_ (hr:=CC (t:=153) (u:=154) (x:=.tmp 26) (y:=.tmp 30) (k:=.u32) (ky:=.u64) (a:=(lim a).getD (i/4) 0) (n:=8*(i%4)) kR kR kR (show 8*(i%4)<=32 by omega) _);refine lV 32 (.int .u8 ((lim a).getD (i/4) 0/2^(8*(i%4))%256:Nat)) ?_ (hr:=aY (n:=IntKind.wrap .u8 (((lim a).getD (i/4) 0/2^(8*(i%4)):Nat):Int)) kR (vJ _));refine lX 33 (sB p) (((nb a)+7)/8:Nat) (((nb a)+7)/8:Nat) 1 (((((nb a)+7)/8:Nat)-1:Nat)-i:Nat) (((((nb a)+7)/8:Nat)-1:Nat)-i:Nat) rfl (lW 0 l kp 1 (((((nb a)+7)/8:Nat)-1:Nat)-i:Nat) ((lim a).getD (i/4) 0/2^(8*(i%4))%256:Nat) e oM (fun _ e=>?_));have Z:((l).set (((((nb a)+7)/8:Nat)-1:Nat)-i:Nat) ((lim a).getD (i/4) 0/2^(8*(i%4))%256:Nat)).length=(((nb a)+7)/8:Nat):=by rw[Gq];exact z
 replace e:=e.to [⟨p,5,((l).set (((((nb a)+7)/8:Nat)-1:Nat)-i:Nat) ((lim a).getD (i/4) 0/2^(8*(i%4))%256:Nat)).flatMap kp⟩] [];refine lN (kQ (lL e ac (bA 16 ((i:Nat)+1) (i+1) ?_)));refine lL e ac (lD ?_);intro a_ ka;refine ⟨_,_,?_,⟨i+1,(l).set (((((nb a)+7)/8:Nat)-1:Nat)-i:Nat) ((lim a).getD (i/4) 0/2^(8*(i%4))%256:Nat),O,rfl,rfl,e.to _ _,oM,Z,(fu z oM J (vf a i))⟩,ka.to _ kR⟩
 omega
theorem ri {n m:Nat}(h:n<256^m):∀ j,j<(m+3)/4->(yJ ((m+3)/4) 0).getD j 0=d3 n (m-0) j:=fun j a=>by
 rw[Nat.sub_zero,r5 h];simp[a]
theorem q9 {l:List Nat}{n m i x:Nat}(hi:i<m)(c:l.length=(m+3)/4)(hv:∀ j,j<(m+3)/4->l.getD j 0=d3 n (m-i) j)(a:x=d3 n (m-1-i) ((m-1-i)/4)) :
  ∀ j,j<(m+3)/4->(l.set ((m-1-i)/4) x).getD j 0=d3 n (m-(i+1)) j:=by
 intro j b;rw[show m-(i+1)=m-1-i by omega]
 by_cases e:j=(m-1-i)/4
 ·subst e
  have:(m-1-i)/4<l.length:=by omega
  simp[this,a]
 ·rw[kO,if_neg e,show m-1-i+1=m-i by omega,<-hv j b]
  simp only[List.getD_eq_getElem?_getD]
  rw[List.getElem?_set_ne (Ne.symm e)]
theorem pP {n k:Nat}:d3 n (k+1) (k/4) ||| (n/256^k%256)*2^(8*(k%4))=d3 n k (k/4):=by rw[kO n k (k/4),if_pos rfl]
theorem kI {b k:Nat}(a:b<256):b*2^(8*(k%4))<4294967296:=by
 have:k%4=0\/k%4=1\/k%4=2\/k%4=3:=by omega
 rcases this with e|e|e|e<;>rw[e]<;>omega
theorem sj {l:List Nat}{n m:Nat}(d:n<256^m)(b:l.length=(m+3)/4)(hv:∀ j,j<(m+3)/4->l.getD j 0=d3 n (m-m) j):ah 4294967296 l=n/\Ld l:=by
 constructor
 ·rw[<-iL]
  refine fN l n (fun j a=>by rw[hv j oM,Nat.sub_self,qB]) ?_;refine e4 d ?_;rw[b,show (256:Nat)=2^8 by rfl,show (4294967296:Nat)=2^32 by rfl,<-A7,<-A7];exact Aw oM oM
 ·intro x c
  obtain ⟨j,a,rfl⟩:=List.mem_iff_getElem.1 c;have:=hv j oM;have e:l[j]=l.getD j 0:=by simp[a]
  rw[e,this];exact mj _ _ _
theorem tz (n m:Nat)(A:Z9)(p:Nat)(hc:m<=p)(hm:m<=1099511627776)(U:n<256^m)(w:World)(h:Hp)(g:G w h)(hA:SlO 1 kp 0 h A (eg n m)):CR 153 #[.slice A m p] w h (fun v h1=>RN h1 v n):=by
 have e:=((sS g).aS hA);have hbl:=hC n m;refine go Tryz.func153 [(0,qS A m p)] rfl (aa e ac (aK (lL e [.c,.v (nV m)] (bA 8 ((m:Nat)+3) (m+3) ?_))));refine lV 9 (nV ((m+3)/4)) ?_ (hr:=aY (db (t:=3) (u:=3) (x:=.tmp 8) (y:=.const (iV 4)) (k:=.i64) (a:=((m+3:Nat):Int)) (b:=(4:Int)) kR kR kR oM _) (cM (m+3) 4 oM));refine lK 10 153 ((m+3)/4) 1 4 (uW 0) eF 0 e (fun C w2 h3 e=>?_);have K:(yJ ((m+3)/4) 0).length=((m+3)/4):=by simp
 refine lL e ac (af (aa e ac (ba ?_)));refine bS _ (CG.loop (fun S Γ Y=>∃ (i:Nat)(l:List Nat)(Q:Hp),S=m-i/\Γ=[(0,qS A m p),(2,sZ),(3,qS (sB C) ((m+3)/4) ((m+3)/4)),(4,nV i)]/\SS w h Y Q [⟨C,153,(l).flatMap eF⟩] [] [fun Q=>SlO 1 kp 0 Q A (eg n m)]/\i<=m/\l.length=(m+3)/4/\(∀ j,j<(m+3)/4->l.getD j 0=d3 n (m-i) j)) _ ⟨0,yJ ((m+3)/4) 0,h3,rfl,rfl,e.to _ _,GA _,K,(ri U)⟩ ?_);rintro _ _ w5 ⟨i,l,h6,X,rfl,e,hi,z,hv⟩;refine cQ (aa e [.c,.c,.v (nV m)] ?_);cases D:(decide ((i:Int)<(m:Int)))
 .
  have H:=oF D;refine lB 14 D (aj (CG.exit ?_))
  show CG _ _ _ _ _ _ _ _
  refine aa e ac ?_;have M:i=m:=by omega
  rw[M] at hv
  obtain ⟨L,O⟩:=sj U z hv;obtain ⟨h9,e,I,W,V⟩:=e.pub 0;replace e:=(e.to [] []).aS (SlO.of_flat (sz:=1) (f:=eF) (d:=0) (b:=C) (o:=0) (l:=l) (fun _=>rfl) I);exact ao 43 e (sD (sB C) ((m+3)/4) l ((m+3)/4) z oM oM _ _ e.g e.f.1) (fun _ _ e=>lL e ac (ae e [] (qS (sB C) (tl l ((m+3)/4)) ((m+3)/4)) (RN.trim O L z oM e.f.1)))
 have H:=oT D;refine lB 14 D (ar (cK (cQ (kZ (aa e [.c,.v (nV m)] (bA 19 ((m:Nat)-1) (m-1) ?_))))));refine lL e ac (bA 21 ((m-1:Nat)-(i:Nat)) ((m-1)-i) ?_);refine lL e ac (lN (cR 19 [] mixed e am ?_));refine eV 0 22 (qS (sB C) ((m+3)/4) ((m+3)/4)) (eV 1 23 (nV ((m-1)-i)) (eV 2 24 (nV (((m-1)-i)/4)) ?_ (hv:=fun _=>aY (db (t:=3) (u:=3) (x:=.tmp 23) (y:=.const (iV 4)) (k:=.i64) (a:=(((m-1)-i:Nat):Int)) (b:=(4:Int)) kR kR kR oM _) (cM ((m-1)-i) 4 oM))));refine eV 3 25 (qS (sB C) ((m+3)/4) ((m+3)/4)) (eV 4 26 (nV ((m-1)-i)) (eV 5 27 (nV (((m-1)-i)/4)) ?_ (hv:=fun _=>aY (db (t:=3) (u:=3) (x:=.tmp 26) (y:=.const (iV 4)) (k:=.i64) (a:=(((m-1)-i:Nat):Int)) (b:=(4:Int)) kR kR kR oM _) (cM ((m-1)-i) 4 oM))));refine eX 6 28 (sB C) ((m+3)/4) ((m+3)/4) 1 (((m-1)-i)/4:Nat) (((m-1)-i)/4:Nat) rfl (eQ 7 29 0 l eF 1 0 (((m-1)-i)/4:Nat) (mW ((l).getD (((m-1)-i)/4:Nat) 0)) e oM (eV 8 30 (qS A m p) (eV 9 31 (nV i) (eX 10 32 A m p 1 (i:Nat) i ((e.f.1).ok oM) ?_))));have B:=hv ((m-1-i)/4) oM;have F:l.getD ((m-1-i)/4) 0 ||| (n/256^(m-1-i)%256)*2^(8*((m-1-i)%4))=d3 n (m-1-i) ((m-1-i)/4):=by rw[B,show m-i=m-1-i+1 by omega];exact pP
 have J:l.getD ((m-1-i)/4) 0<4294967296:=by rw[B];exact mj _ _ _
 have B:=hv ((m-1-i)/4) oM;have F:l.getD ((m-1-i)/4) 0 ||| (n/256^(m-1-i)%256)*2^(8*((m-1-i)%4))=d3 n (m-1-i) ((m-1-i)/4):=by rw[B,show m-i=m-1-i+1 by omega];exact pP
 have J:l.getD ((m-1-i)/4) 0<4294967296:=by rw[B];exact mj _ _ _
 refine FY 11 33 (.int .u8 ((eg n m).getD i 0:Nat)) e ((e.f.1).el i oM) (by rw[gj n m _ oM]) (eV 12 34 (mW (n/256^(m-1-i)%256)) ?_ (hv:=fun _=>rT (((n/256^(m-1-i)%256:Nat):Int)) kR (oQ oM oM)));refine eV 13 35 (nV ((m-1)-i)) (eV 14 36 (nV (((m-1)-i)%4)) ?_ (hv:=fun _=>aY (eT (t:=3) (u:=3) (x:=.tmp 35) (y:=.const (iV 4)) (k:=.i64) (a:=(((m-1)-i:Nat):Int)) (b:=(4:Int)) kR kR kR oM _) (cX ((m-1)-i) 4)));refine km 15 37 (8*(((m-1)-i)%4:Nat)) (8*(((m-1)-i)%4:Nat)) (eV 16 38 (mV (8*(((m-1)-i)%4:Nat))) ?_ (hv:=fun _=>rU (((8*(((m-1)-i)%4:Nat):Nat):Int)) kR (bD oM oM)));refine eV 17 39 (mW ((n/256^(m-1-i)%256)*2^(8*((m-1-i)%4)))) ?_ (hv:=fun _=>t8 (t:=153) (u:=154) (x:=.tmp 34) (y:=.tmp 38) (ky:=.u64) (a:=n/256^(m-1-i)%256) (n:=8*((m-1-i)%4)) kR kR kR oM (kI oM) _);refine eV 18 40 (mW (d3 n (m-1-i) ((m-1-i)/4))) ?_ (hv:=fun _=>aY (AU (t:=153) (u:=153) (x:=.tmp 29) (y:=.tmp 39) (a:=l.getD ((m-1-i)/4) 0) (b:=(n/256^(m-1-i)%256)*2^(8*((m-1-i)%4))) kR kR kR J (kI oM) _) (congrArg Int.ofNat F));refine bW e (fun _ Z e=>tX 19 41 (sB C) ((m+3)/4) ((m+3)/4) 1 (((m-1)-i)/4:Nat) (((m-1)-i)/4:Nat) rfl (tW 20 0 l eF 1 (((m-1)-i)/4:Nat) (d3 n (m-1-i) ((m-1-i)/4):Nat) e oM (fun _ e=>?_)));have za:((l).set (((m-1)-i)/4:Nat) (d3 n (m-1-i) ((m-1-i)/4):Nat)).length=((m+3)/4):=by rw[Gq];exact z
 replace e:=e.to [⟨C,153,((l).set (((m-1)-i)/4:Nat) (d3 n (m-1-i) ((m-1-i)/4):Nat)).flatMap eF⟩] [];refine tN (kQ (lL e ac (bA 16 ((i:Nat)+1) (i+1) ?_)));refine lL e ac (lD ?_);intro a_ ka;refine ⟨_,_,?_,⟨i+1,(l).set (((m-1)-i)/4:Nat) (d3 n (m-1-i) ((m-1-i)/4):Nat),Z,rfl,rfl,e.to _ _,oM,za,(q9 oM z hv rfl)⟩,ka.to _ kR⟩
 omega
def cJ (q:Rat):Rat:=if q.num<0 then -q else q
theorem sf (q:Rat):(cJ q).num=((ab q.num:Nat):Int):=by
 unfold cJ ab;split
 ·rw[Hi];omega
 ·omega
theorem tf (q:Rat):(cJ q).den=q.den:=by
 unfold cJ;split
 ·rw[Hj]
 ·rfl
theorem LQ.ln {q:Rat}(h:LQ 100000000 q):(lim (ab q.num)).length<=300000000:=ez (pQ _) (by have:=h.1;omega)
theorem LQ.ld {q:Rat}(h:LQ 100000000 q):(lim q.den).length<=300000000:=ez (pQ _) (by have:=h.2;omega)
theorem nl {k:Nat}{q:Rat}(h:LQ k q)(hk:k<=100000000:=by omega):(lim (ab q.num)).length<=300000000:=LQ.ln (h.mono hk)
theorem nD {k:Nat}{q:Rat}(h:LQ k q)(hk:k<=100000000:=by omega):(lim q.den).length<=300000000:=LQ.ld (h.mono hk)
theorem LQ.abs {k:Nat}{q:Rat}(h:LQ k q):LQ k (cJ q):=⟨by rw[sf];exact h.1,by rw[tf];exact h.2⟩
theorem LQ.sub {k l:Nat}{a b:Rat}(ha:LQ k a)(c:LQ l b):LQ (k+l+1) (a-b):=by rw[Rat.sub_eq_add_neg];exact ha.add c.neg
theorem LQ.inv {k:Nat}{q:Rat}(h:LQ k q):LQ k q⁻¹:=by
 by_cases hz:q.num=0
 ·have:q=0:=by rw[<-Rat.num_eq_zero];exact hz
  subst this;rw[Rat.inv_zero];exact h
 ·obtain ⟨h1,a⟩:=pH q hz
  exact ⟨by rw[h1,dP];exact h.2,by rw[a];exact h.1⟩
theorem LQ.div {k l:Nat}{a b:Rat}(ha:LQ k a)(c:LQ l b):LQ (k+l) (a/b):=by rw[Rat.div_def];exact ha.mul c.inv
theorem LQ.int {z:Int}(h0 : -9223372036854775808<=z)(h1:z<=9223372036854775807):LQ 1 (z:Rat):=⟨by rw[Hg];exact di.2 (by unfold ab;omega),by rw[Hh];exact di.2 oM⟩
theorem LQ.lit {z:Int}(h : -9223372036854775808<=z/\z<=9223372036854775807):LQ 1 (z:Rat):=LQ.int h.1 h.2
def Bk (a b:List Rat):Nat->Rat
  | 0=>0
  | k+1=>Bk a b k+a.getD k 0*b.getD k 0
theorem kf (a:Nat)(A:Z9)(c:Nat)(l:(lim a).length<=c)(b:Nat)(D:Z9)(d:Nat)(f:(lim b).length<=d)(e:(lim a).length<=3000000000)(x:(lim b).length<=1)(u:0<b)(w:World)(h:Hp)(g:G w h)(p:S3 A (lim a) h)(j:S3 D (lim b) h):CR 122 #[.slice A (lim a).length c,.slice D (lim b).length d] w h (fun v h1=>∃ o i,v=.tuple #[o,i]/\RN h1 o (a/b)/\RN h1 i (a%b)):=by
 have y:=de.2 u
 rcases ep a b with h1|h1
 ·exact rv a A c l b D d f e oM h1 w h g p j
 ·exact oe a A c l b D d f e oM h1 oM w h g p j
theorem sP (a:Nat)(A:Z9)(c:Nat)(Y:(lim a).length<=c)(b:Nat)(D:Z9)(d:Nat)(Q:(lim b).length<=d)(z:(lim a).length<=3000000000)(B:(lim b).length<=1)(w:World)(h:Hp)(g:G w h)(hA:S3 A (lim a) h)(W:S3 D (lim b) h):CR 121 #[.slice A ((lim a).length) c,.slice D ((lim b).length) d] w h (fun v h1=>RN h1 v (GP a b)):=by
 have e:=(((sS g).aS hA).aS W);refine go Tryz.func121 [(0,qS A ((lim a).length) c),(1,qS D ((lim b).length) d)] rfl (aa e ac (af (kZ ?_)));replace e:=e.aS e.f.1;replace e:=e.aS e.f.r.1;refine bS _ (CG.loop (fun H Γ V=>∃ (x:Nat)(j:Z9)(c1:Nat)(y:Nat)(o:Z9)(c2:Nat)(F:Hp),H=y/\Γ=[(4,sZ),(0,qS j ((lim x).length) c1),(1,qS o ((lim y).length) c2)]/\SS w h V F [] [] [S3 j (lim x),S3 o (lim y),S3 D (lim b),S3 A (lim a)]/\(lim x).length<=c1/\(lim y).length<=c2/\(lim x).length<=3000000000/\(lim y).length<=1/\GP x y=GP a b) _ ⟨a,A,c,b,D,d,h,rfl,rfl,e.to _ _,Y,Q,z,B,rfl⟩ ?_);rintro _ _ w1 ⟨x,j,c1,y,o,c2,h2,S,rfl,e,l,p,hl1,M,K⟩;refine cQ (aa e [.c,.v (nV ((lim y).length))] ?_);cases i:(decide ((0:Int)<(((lim y).length:Nat):Int)))
 .
  have u:=oF i;refine lB 9 i (aj (CG.exit ?_))
  show CG _ _ _ _ _ _ _ _
  refine aa e aF (lN (kX ?_));have C:y=0:=Nat.eq_zero_of_not_pos (fun F=>by have:=de.2 F;omega);exact e.ret [] (qS j ((lim x).length) c1) (by rw[<-K,C,GZ];exact ⟨j,c1,rfl,l,e.f.1⟩)
 have u:=oT i;refine lB 9 i (ar (cK (kZ (aa e aF (lC 13 e (kf x j c1 l y o c2 p oM oM (de.1 oM) _ _ e.g e.f.1 e.f.2.1) ?_)))));rintro _ w5 h6 e ⟨_,_,rfl,⟨U,X,rfl,O,hq⟩,⟨L,J,rfl,I,hr⟩⟩;replace e:=e.aS hr;have Z:=yM x (de.1 (show 0<(lim y).length by omega));have hml:=ft (show x%y<=y by omega);refine lL e [.c,.v (qS U (lim (x/y)).length X),.v (qS L ((lim (x%y)).length) J),.c,.c] (aK (lL e aF (lN (kQ (lL e aF (lD ?_))))));intro a_ ka;replace e:=((e.tl.tl.tl.aS e.f.1).aS e.f.r.1);refine ⟨_,_,?_,⟨y,o,c2,x%y,L,J,h6,rfl,rfl,e.to _ _,p,I,oM,oM,(by rw[kv];exact K)⟩,ka.to _ kR⟩
 omega
end Go.Proofs.YtmdaaeffcfheoaaGreatDoor
