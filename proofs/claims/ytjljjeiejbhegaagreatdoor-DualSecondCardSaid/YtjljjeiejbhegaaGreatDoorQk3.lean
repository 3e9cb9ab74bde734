/- Laws of this claim, part 4. -/
import Derived.Test.YtjljjeiejbhegaaGreatDoorQk0
import Derived.Test.YtjljjeiejbhegaaGreatDoorQk1
import Derived.Test.YtjljjeiejbhegaaGreatDoorQk2
set_option maxRecDepth 100000
set_option maxHeartbeats 4000000
namespace Go.Proofs.YtjljjeiejbhegaaGreatDoor
open Int renaming divExact_eq_ediv -> OE, dvd_refl -> OB, dvd_trans -> Oy, emod_lt_of_pos -> OY, emod_nonneg -> OX, lt_or_le -> OZ, lt_trichotomy -> Oq, mul_ediv_cancel_left -> Oo, mul_ne_zero -> OU, mul_neg_of_neg_of_pos -> OP, mul_nonneg -> O2, mul_pos -> OQ, natAbs_add_le -> OM, natAbs_dvd -> OA, natAbs_mul -> Om, natAbs_natCast -> On, natAbs_neg -> ON, natCast_dvd_natCast -> Oz, sign_eq_neg_one_of_neg -> Ot, sign_eq_one_of_pos -> Ou, tmod_eq_emod_of_nonneg -> O0
open List renaming drop_zero -> y6, ext_getElem -> O1, getD_eq_getElem?_getD -> Nc, getElem?_eq_none -> ua, getElem?_set_ne -> vi, getElem_mem -> gg, length -> NT, length_drop -> Np, length_set -> NI, length_take -> MV, mem_cons -> hC, mem_cons_self -> N5, mem_singleton -> ti, replicate -> Af, set_set -> N3, take_of_length_le -> Nj, take_set -> Of, toArray -> Oj
open Nat renaming add_zero -> y5, divExact_eq_div -> OF, div_le_self -> L2, eq_zero_or_pos -> B2, gcd -> N1, gcd_comm -> N2, gcd_dvd_left -> Ow, gcd_dvd_right -> Ox, gcd_le_left -> Oi, gcd_le_right -> OL, gcd_pos_of_pos_right -> Ov, gcd_zero_right -> Ol, le_mul_of_pos_left -> Oh, le_of_lt -> Ok, le_trans -> ep, lt_of_le_of_lt -> H1, lt_or_ge -> ea, mod_lt -> As, mul_assoc -> MT, mul_div_cancel_left -> Og, mul_zero -> MX, two_pow_pos -> M0, zero_le -> NY, zero_mod -> NJ
open Option renaming mem_toList -> O3
open Rat renaming add -> OC, den_intCast -> OI, intCast_natCast -> OT, maybeNormalize -> OD, mkRat_eq_div -> OS, mkRat_self -> OV, mul -> OG, neg_den -> OK, neg_num -> OJ, normalize_eq_mkRat -> OR, num_eq_zero -> OW, num_intCast -> OH, sub_eq_add_neg -> OO
open Go.RowKit
open Go.RowKit Go.Shelf
def win (l:List Nat)(o n:Nat):List Nat:=(l.drop o).take n
theorem bT {l:List Nat}{o n:Nat}(h:o+n<=l.length):(win l o n).length=n:=by unfold win;rw[MV,Np];omega
theorem vk {l:List Nat}{o n j:Nat}(h:j<n):(win l o n).getD j 0=l.getD (o+j) 0:=by unfold win;rw[jZ h,bG]
theorem mg {l:List Nat}{o n i x:Nat}(hi:i<n):win (l.set (o+i) x) o n=(win l o n).set i x:=by
 unfold win;rw[List.drop_set,if_neg oM,Of,show o+i-o=i by omega]
theorem xZ {l:List Nat}{o n q:Nat}:(win l o n).drop q=win l (o+q) (n-q):=by
 unfold win;rw[List.drop_take,List.drop_drop]
theorem qV {l:List Nat}{o n m:Nat}(h:m<=n):(win l o n).take m=win l o m:=by
 unfold win;rw[List.take_take,Nat.min_eq_left h]
theorem ve (l n)(h:l.length<=n):win l 0 n=l:=by unfold win;rw[y6,Nj h]
theorem Wd.win {l:List Nat}(h:Wd l)(o n):Wd (win l o n):=Dg.take (Dg.drop h o) n
theorem uR {Z W:List Nat}{i p d a:Nat}(hi:i<Z.length)(inv:2^p*ai 18446744073709551616 (Z.take i)+a=ai 18446744073709551616 (W.take i)+18446744073709551616^i*(W.getD i 0%2^p))
  (j:2^p*d+W.getD i 0%2^p=W.getD i 0+18446744073709551616*(W.getD (i+1) 0%2^p)) :
  2^p*ai 18446744073709551616 ((Z.set i d).take (i+1))+a=ai 18446744073709551616 (W.take (i+1))+18446744073709551616^(i+1)*(W.getD (i+1) 0%2^p):=by
 have c:=aI 18446744073709551616 (Z.set i d) i;have e:(Z.set i d).take i=Z.take i:=by rw[Of,List.set_eq_of_length_le];rw[MV];omega
 rw[e,bF hi,if_pos rfl] at c;have h:=aI 18446744073709551616 W i;have f:=congrArg (18446744073709551616^i * ·) j
 simp only[Nat.mul_add] at f;rw[c,h,Nat.pow_succ,Nat.mul_add];have o:2^p*(18446744073709551616^i*d)=18446744073709551616^i*(2^p*d):=by ac_rfl
 have l:18446744073709551616^i*18446744073709551616*(W.getD (i+1) 0%2^p)=18446744073709551616^i*(18446744073709551616*(W.getD (i+1) 0%2^p)):=by ac_rfl
 rw[o,l];omega
theorem AW {X:List Nat}(e:Wd X){k m:Nat}(t:Tz (aD X) k m)(hk:k/64<X.length):aD (X.drop (k/64))=2^(k%64)*m/\(X.drop (k/64)).getD 0 0%2^(k%64)=0:=by
 have h1:aD (X.drop (k/64))=2^(k%64)*m:=by
  rw[oS e oM,t.1,Ci k,MT,Og _ (Nat.pow_pos kD)]
 refine ⟨h1,?_⟩
 have d:aD (X.drop (k/64))=(X.drop (k/64)).getD 0 0+(2^64)*ai (2^64) ((X.drop (k/64)).drop 1):=by
  have:=ge (2^64) (l:=X.drop (k/64)) (k:=0) (by rw[Np];omega)
  rwa [y6] at this
 have c:((2^64):Nat)=2^(k%64)*2^(64-k%64):=by rw[<-Nat.pow_add,show k%64+(64-k%64)=64 by omega]
 rw[h1] at d;have a:(2^(k%64)*m)%2^(k%64)=0:=Nat.mul_mod_right _ _;rw[d] at a
 conv at a=>lhs;rw[c]
 rw[MT,Nat.add_mul_mod_self_left] at a;exact a
theorem IU {Z W:List Nat}{p m:Nat}(a:W.length<=Z.length)(inv:2^p*ai (2^64) (Z.take Z.length)+0=ai (2^64) (W.take Z.length)+(2^64)^Z.length*(W.getD Z.length 0%2^p))(e:aD W=2^p*m):aD Z=m:=by
 rw[List.take_length,Nj a,cB a,NJ,MX,y5,y5] at inv;have c:ai (2^64) W=2^p*m:=e;rw[c] at inv
 exact Nat.eq_of_mul_eq_mul_left (M0 p) inv
theorem sl {l X:List Nat}{q i x N:Nat}(c:q+i<l.length)(h:∀ j,i<=j->j<N->l.getD (q+j) 0=X.getD j 0):∀ j,i+1<=j->j<N->(l.set (q+i) x).getD (q+j) 0=X.getD j 0:=fun j h1 a=>by
 rw[bF c,if_neg oM];exact h j oM a
theorem wh (rb C o n c x)(hx:0<x)(hl0:C.length<=(10^9))(D:o+n<=C.length)(hnc:n<=c)(H:Wd C)(J:win C o n=wds x)(w h)(g:G w h)(ho:Own w rb 42 (C.flatMap aq))(hj:h[rb]?=some bp)(tb:Tab h):Calls Tryz.prog 156 #[.slice (some ⟨rb,o,none⟩) n c] w (fl rb w h fun v w' _=>∃ z:List Nat,∃ o' n' c':Nat,v=.slice (some ⟨rb,o',none⟩) n' c'/\z.length=C.length/\Wd z/\o'+n'<=z.length/\n'<=c'/\(∃ k m:Nat,Tz x k m/\win z o' n'=wds m)/\Own w' rb 42 (z.flatMap aq)):=by
 have B:UpM [rb] w h w h:=UpM.refl g;obtain ⟨wz,hz,e⟩:=SS.at_ g ho hj;have bd:C.length=C.length:=rfl;replace e:=(e.add (K:=fun S=>Tab S) tb);refine go Tryz.func156 [(0,qS (some ⟨rb,o,none⟩) n c)] rfl (aa e ac (aG (lL e ac (Er 7 0 e (fun _ g_ f_ O=>tK (some ⟨rb,o,none⟩) c (win C o n) n (bT D) (H.win _ _) (by rw[J,a7];exact hx) (by rw[bT D];omega) _ _ g_ (f_.1) (SlO.win (f:=aq) (d:=0) (b:=rb) (l:=C) (fun _=>rfl) O o n)) ?_))));rintro _ w1 h2 u3 e ⟨k,m,rfl,Q,hkn⟩;replace B:=B.trans (u3.m _);rw[bT D] at hkn
 have hX:=H.win o n;obtain ⟨L,M⟩:=AW hX Q (by rw[bT D];omega);rw[xZ] at L M
 obtain ⟨X,hXd⟩:∃ X,X=win C (o+k/64) (n-k/64):=⟨_,rfl⟩;rw[<-hXd] at L M
 have hXl:X.length=n-k/64:=by rw[hXd];exact bT oM
 have hXW:Wd X:=by rw[hXd];exact H.win _ _
 have hXg:∀ j,j<n-k/64->X.getD j 0=C.getD (o+k/64+j) 0:=fun j hj=>by rw[hXd];exact vk hj
 refine lL e ac (aG (lL e ax (lV 10 (nV (k/64)) ?_ (hr:=aK (dU (t:=3) (u:=3) (x:=.tmp 9) (y:=.const (iV 64)) (k:=.i64) (a:=(k:Int)) (b:=(64:Int)) kR kR kR oM _) (dN k 64 oM)))));refine Mm 11 rb o n c 1 (k/64:Nat) (k/64) (o+(k/64)) (lL e ac (aG (lL e ac (lV 13 (nV (k%64)) ?_ (hr:=aK (fP (t:=3) (u:=3) (x:=.tmp 12) (y:=.const (iV 64)) (k:=.i64) (a:=(k:Int)) (b:=(64:Int)) kR kR kR oM _) (dH k 64))))));refine lL e ac (ag (aa e [.c,.v (nV (n-(k/64))),.c] (aZ ?_)));refine bH _ (CG.loop (fun μ_ Γ w_=>∃ (i:Nat)(l:List Nat)(S:Hp),μ_=(n-k/64)-i/\Γ=[(0,qS (some ⟨rb,(o+(k/64)),none⟩) (n-(k/64)) (c-(k/64))),(2,sZ),(4,nV (k%64)),(15,nV (n-(k/64))),(16,nV i)]/\SS wz hz w_ S [⟨rb,42,(l).flatMap aq⟩] [] [fun S=>Tab S]/\i<=n-k/64/\l.length=C.length/\Wd l/\2^(k%64)*ai (2^64) ((win l (o+k/64) (n-k/64)).take i)+0=ai (2^64) (X.take i)+(2^64)^i*(X.getD i 0%2^(k%64))/\(∀ j,i<=j->j<n-k/64->l.getD (o+k/64+j) 0=X.getD j 0)/\UpM [rb] w h w_ S) _ ⟨0,C,h2,rfl,rfl,e.to _ _,NY _,rfl,H,(by rw[M];simp[ai]),(fun j _ hj=>(hXg j hj).symm),B⟩ ?_);rintro _ _ w4 ⟨i,l,h5,hm6,rfl,e,hi,Y,V,inv,I,B⟩;refine aA ?_;cases F:(decide ((i:Int)<((n-(k/64):Nat):Int)))
 .
  have bb:=oF F;refine lB 17 F (ag (dE (CG.exit ?_)))
  show CG _ _ _ _ _ _ _ _
  refine aa e ac (Er 47 0 e (fun _ g_ f_ O=>F5 (some ⟨rb,(o+k/64),none⟩) (c-(k/64)) (win l (o+k/64) (n-k/64)) (n-k/64) (bT oM) (by rw[bT oM];omega) (by rw[bT oM];omega) _ _ g_ (SlO.win (f:=aq) (d:=0) (b:=rb) (l:=l) (fun _=>rfl) O (o+k/64) (n-k/64))) ?_);rintro _ w8 h9 u10 e rfl;replace B:=B.trans (u10.m _);refine lL e ac (lN (kX ?_));have W:i=n-k/64:=by omega
  have hZl:(win l (o+k/64) (n-k/64)).length=n-k/64:=bT oM;have hE:=IU (Z:=win l (o+k/64) (n-k/64)) oM (by rw[hZl,<-W];rw[<-W] at inv;exact inv) L;have hZW:Wd (win l (o+k/64) (n-k/64)):=V.win _ _;have hwm:=pD hZW;rw[hE,hZl] at hwm
  have htl:=iN (win l (o+k/64) (n-k/64)) (n-k/64);exact e.retM B [] (qS (some ⟨rb,(o+k/64),none⟩) (tl (win l (o+k/64) (n-k/64)) (n-k/64)) (c-(k/64))) ⟨l,(o+k/64),_,_,rfl,Y,V,by omega,by omega,⟨k,m,by rw[J,a7] at Q;exact Q,by rw[hwm];exact (qV htl).symm⟩,e.own 0⟩
 have bb:=oT F;refine lB 17 F (ag (ck (cK (cQ (kZ (aa e ax (aG (lL e ax (Jc 21 rb (o+(k/64)) (n-(k/64)) (c-(k/64)) 1 (i:Nat) i ((o+(k/64))+i) ?_)))))))));refine lQ 22 0 l aq 1 0 ((o+(k/64))+i) (mV ((l).getD ((o+(k/64))+i) 0)) e oM (lL e ac ?_);have U:X.getD i 0=l.getD (o+k/64+i) 0:=(I i (nR _) oM).symm;have hxi:=V.get (o+k/64+i);have hdv:=L2 (l.getD (o+k/64+i) 0) (2^(k%64));refine lV 24 (mV (((l).getD ((o+(k/64))+i) 0:Nat)/2^(k%64))) ?_ (hr:=gY (t:=42) (u:=3) (x:=.tmp 22) (y:=.tmp 23) (ky:=.i64) (a:=((l).getD ((o+(k/64))+i) 0:Nat)) (n:=(k%64)) kR kR kR oM _);refine Jc 25 rb (o+(k/64)) (n-(k/64)) (c-(k/64)) 1 (i:Nat) i ((o+(k/64))+i) (Lc 0 l aq 1 ((o+(k/64))+i) (((l).getD ((o+(k/64))+i) 0:Nat)/2^(k%64):Nat) e oM (fun _ pu e=>?_));replace B:=B.put pu (ti.2 rfl) e.g;have zb:((l).set ((o+(k/64))+i) (((l).getD ((o+(k/64))+i) 0:Nat)/2^(k%64):Nat)).length=C.length:=by rw[NI];exact Y
 replace e:=e.to [⟨rb,42,((l).set ((o+(k/64))+i) (((l).getD ((o+(k/64))+i) 0:Nat)/2^(k%64):Nat)).flatMap aq⟩] [];refine aG (lL e ac (bw 27 ((i:Nat)+1) (i+1) ?_));refine lL e [.c,.v (nV (n-(k/64)))] ?_;cases za:(decide (((i+1:Nat):Int)<((n-(k/64):Nat):Int)))
 .
  have zc:=oF za;refine lB 30 za (ah (cK (kQ (bw 45 ((i:Nat)+1) (i+1) ?_))));refine lL e ac (lD ?_);intro a_ ka;refine ⟨_,_,?_,⟨i+1,(l).set ((o+(k/64))+i) (((l).getD ((o+(k/64))+i) 0:Nat)/2^(k%64):Nat),h5,rfl,rfl,e.to _ _,oM,zb,(V.set _ oM),(by rw[mg oM];exact uR (by rw[bT oM];omega) inv (by rw[U,cB (l:=X) (show X.length<=i+1 by omega),NJ,MX,y5];exact Nat.div_add_mod _ _)),(sl oM I),B⟩,ka.to _ kR⟩
  omega
 have zc:=oT za;refine lB 30 za (ak (xE ⟨[],none⟩ 13 mixed ?_));replace B:=B.trans ((Up.drew (Up.refl e.g)).m _);replace e:=e.drew;refine aV 0 31 (qS (some ⟨rb,(o+(k/64)),none⟩) (n-(k/64)) (c-(k/64))) (aV 1 32 (nV i) (Mf 2 33 rb (o+(k/64)) (n-(k/64)) (c-(k/64)) 1 (i:Nat) i ((o+(k/64))+i) (aQ 3 34 0 ((l).set ((o+(k/64))+i) (((l).getD ((o+(k/64))+i) 0:Nat)/2^(k%64):Nat)) aq 1 0 ((o+(k/64))+i) (mV (((l).set ((o+(k/64))+i) (((l).getD ((o+(k/64))+i) 0:Nat)/2^(k%64):Nat)).getD ((o+(k/64))+i) 0)) e oM (aV 4 35 (qS (some ⟨rb,(o+(k/64)),none⟩) (n-(k/64)) (c-(k/64))) (aV 5 36 (nV i) (aV 6 37 (nV (i+1)) ?_ (hv:=fun _=>rS (((i:Nat)+1)) kR ((g5 oM oM).trans oM))))))));refine Mf 7 38 rb (o+(k/64)) (n-(k/64)) (c-(k/64)) 1 (i+1:Nat) (i+1) ((o+(k/64))+(i+1)) (aQ 8 39 0 ((l).set ((o+(k/64))+i) (((l).getD ((o+(k/64))+i) 0:Nat)/2^(k%64):Nat)) aq 1 0 ((o+(k/64))+(i+1)) (mV (((l).set ((o+(k/64))+i) (((l).getD ((o+(k/64))+i) 0:Nat)/2^(k%64):Nat)).getD ((o+(k/64))+(i+1)) 0)) e oM (aV 9 40 (nV (k%64)) (aV 10 41 (nV (64-(k%64))) ?_ (hv:=fun _=>rS ((64-(k%64:Nat))) kR ((g5 oM oM).trans oM)))));refine aV 11 42 (mV ((((l).set ((o+(k/64))+i) (((l).getD ((o+(k/64))+i) 0:Nat)/2^(k%64):Nat)).getD ((o+(k/64))+(i+1)) 0:Nat)*2^(64-(k%64))%(2^64))) ?_ (hv:=fun _=>iq (t:=42) (u:=3) (x:=.tmp 39) (y:=.tmp 41) (ky:=.i64) (a:=(((l).set ((o+(k/64))+i) (((l).getD ((o+(k/64))+i) 0:Nat)/2^(k%64):Nat)).getD ((o+(k/64))+(i+1)) 0:Nat)) (n:=(64-(k%64))) kR kR kR _);have hXn:X.getD (i+1) 0=l.getD (o+k/64+(i+1)) 0:=(I (i+1) oM oM).symm;obtain ⟨hS1,hS2,hS3⟩:=sH (x:=l.getD (o+k/64+i) 0) (y:=l.getD (o+k/64+(i+1)) 0) (p:=k%64) oM hxi;have hgs:=bF (l:=l) (k:=o+k/64+i) (j:=o+k/64+i) (x:=l.getD (o+k/64+i) 0/2^(k%64)) oM;rw[if_pos rfl] at hgs
 have hgn:=bF (l:=l) (k:=o+k/64+i) (j:=o+k/64+(i+1)) (x:=l.getD (o+k/64+i) 0/2^(k%64)) oM;rw[if_neg oM] at hgn
 refine aV 12 43 (mV (l.getD (o+k/64+i) 0/2^(k%64)+l.getD (o+k/64+(i+1)) 0*2^(64-k%64)%(2^64))) ?_ (hv:=fun _=>aK (iO (t:=42) (u:=42) (x:=.tmp 34) (y:=.tmp 42) (a:=(((l).set ((o+(k/64))+i) (((l).getD ((o+(k/64))+i) 0:Nat)/2^(k%64):Nat)).getD ((o+(k/64))+i) 0:Nat)) (b:=((((l).set ((o+(k/64))+i) (((l).getD ((o+(k/64))+i) 0:Nat)/2^(k%64):Nat)).getD ((o+(k/64))+(i+1)) 0:Nat)*2^(64-(k%64))%(2^64):Nat)) kR kR kR oM oM _) (by rw[hgs,hgn,hS1]));refine Ml 13 44 rb (o+(k/64)) (n-(k/64)) (c-(k/64)) 1 (i:Nat) i ((o+(k/64))+i) (Mw 14 0 ((l).set ((o+(k/64))+i) (((l).getD ((o+(k/64))+i) 0:Nat)/2^(k%64):Nat)) aq 1 ((o+(k/64))+i) (l.getD (o+k/64+i) 0/2^(k%64)+l.getD (o+k/64+(i+1)) 0*2^(64-k%64)%(2^64):Nat) e oM (fun _ pu e=>?_));replace B:=B.put pu (ti.2 rfl) e.g;have zd:(((l).set ((o+(k/64))+i) (((l).getD ((o+(k/64))+i) 0:Nat)/2^(k%64):Nat)).set ((o+(k/64))+i) (l.getD (o+k/64+i) 0/2^(k%64)+l.getD (o+k/64+(i+1)) 0*2^(64-k%64)%(2^64):Nat)).length=C.length:=by rw[NI];exact zb
 replace e:=e.to [⟨rb,42,(((l).set ((o+(k/64))+i) (((l).getD ((o+(k/64))+i) 0:Nat)/2^(k%64):Nat)).set ((o+(k/64))+i) (l.getD (o+k/64+i) 0/2^(k%64)+l.getD (o+k/64+(i+1)) 0*2^(64-k%64)%(2^64):Nat)).flatMap aq⟩] [];refine tN (kQ (bw 45 ((i:Nat)+1) (i+1) ?_));refine lL e ac (lD ?_);intro a_ ka;refine ⟨_,_,?_,⟨i+1,((l).set ((o+(k/64))+i) (((l).getD ((o+(k/64))+i) 0:Nat)/2^(k%64):Nat)).set ((o+(k/64))+i) (l.getD (o+k/64+i) 0/2^(k%64)+l.getD (o+k/64+(i+1)) 0*2^(64-k%64)%(2^64):Nat),h5,rfl,rfl,e.to _ _,oM,zd,((V.set _ oM).set _ hS2),(by rw[N3,mg oM];exact uR (by rw[bT oM];omega) inv (by rw[U,hXn];exact hS3)),(by rw[N3];exact sl oM I),B⟩,ka.to _ kR⟩
 omega
theorem Kv (rb u o n c x)(hl0:u.length<=(10^9))(hon:o+n<=u.length)(hnc:n<=c)(hW0:Wd u)(F:win u o n=wds x)(D d y m)(hm:(wds y).length=m)(hmd:m<=d)(hyx:y<=x)(w h)(g:G w h)(ho:Own w rb 42 (u.flatMap aq))(hj:h[rb]?=some bp)(hD:SlO 1 aq 0 h D (wds y)):Calls Tryz.prog 158 #[.slice (some ⟨rb,o,none⟩) n c,.slice D m d] w (fl rb w h fun v w' _=>∃ z:List Nat,∃ o' Y c':Nat,v=.slice (some ⟨rb,o',none⟩) Y c'/\z.length=u.length/\Wd z/\o'+Y<=z.length/\Y<=c'/\win z o' Y=wds (x-y)/\Own w' rb 42 (z.flatMap aq)):=by
 have e:UpM [rb] w h w h:=UpM.refl g;obtain ⟨wz,hz,a⟩:=SS.at_ g ho hj;have bd:u.length=u.length:=rfl;replace a:=a.aS hD;have hwn:n=(wds x).length:=by rw[<-F,bT hon]
 have hlm:=dr hyx;refine go Tryz.func158 [(0,qS (some ⟨rb,o,none⟩) n c),(1,qS D m d)] rfl (aa a ac (aG (lL a ac (ag (aa a [.c,.v (nV n),.c] (aZ ?_))))));refine bH _ (CG.loop (fun μ_ Γ w_=>∃ (i:Nat)(l:List Nat)(I:Nat)(X:Hp),μ_=n-i/\Γ=[(0,qS (some ⟨rb,o,none⟩) n c),(1,qS D m d),(4,sZ),(9,nV n),(10,nV i),(5,mV I)]/\SS wz hz w_ X [⟨rb,42,(l).flatMap aq⟩] [] [fun X=>SlO 1 aq 0 X D (wds y)]/\i<=n/\l.length=u.length/\Wd l/\I<=1/\ai (2^64) (win l o n)+ai (2^64) ((wds y).take i)=x+(2^64)^i*I/\UpM [rb] w h w_ X) _ ⟨0,u,0,h,rfl,rfl,a.to _ _,NY _,rfl,hW0,oM,(by have hx_:ai (2^64) (wds x)=x:=a7 x;rw[F,hx_];simp[ai]),e⟩ ?_);rintro _ _ w1 ⟨i,l,I,h2,hm3,rfl,a,hi,H,L,hbo,inv,e⟩;have hlk:=L.get (o+i);have hyk:=(Wd.wds y).get i;have W:=vk (l:=l) (o:=o) (n:=n) (j:=i);refine aA ?_;cases C:(decide ((i:Int)<(n:Int)))
 .
  have O:=oF C;refine lB 11 C (ag (dE (CG.exit ?_)))
  show CG _ _ _ _ _ _ _ _
  refine aa a ac (Er 36 0 a (fun _ g_ f_ sg_=>F5 (some ⟨rb,o,none⟩) c (win l o n) n (bT oM) (by rw[bT oM];omega) (by rw[bT oM];omega) _ _ g_ (SlO.win (f:=aq) (d:=0) (b:=rb) (l:=l) (fun _=>rfl) sg_ o n)) ?_);rintro _ w5 h6 u7 a rfl;replace e:=e.trans (u7.m _);refine lL a ac (lN (kX ?_));have hiN:i=n:=by omega
  have V:(win l o n).length=n:=bT oM;rw[Nj (show (wds y).length<=i by omega),hiN] at inv
  have K:Wd (win l o n):=L.win _ _;have hE:aD (win l o n)=x-y:=pr K (by rw[V];have hb_:ai (2^64) (wds y)=y:=a7 y;rw[hb_] at inv;exact inv) oM hbo;have U:=pD K;rw[hE,V] at U
  have htl:=iN (win l o n) n;exact a.retM e [] (qS (some ⟨rb,o,none⟩) (tl (win l o n) n) c) ⟨l,o,_,_,rfl,H,L,by omega,by omega,(by rw[U];exact (qV htl).symm),a.own 0⟩
 have O:=oT C;refine lB 11 C (ag (ck (cK (cQ (kZ (aa a ax (aG (lL a ac (ag (aa a [.c,.c,.v (nV m)] ?_))))))))));cases B:(decide ((i:Int)<(m:Int)))
 .
  have Q:=oF B;refine lB 16 B (ah (cK (kQ (lL a m4 (Jc 26 rb o n c 1 (i:Nat) i (o+i) ?_)))));refine lQ 27 0 l aq 1 0 (o+i) (mV ((l).getD (o+i) 0)) a oM (lL a ax ?_);obtain ⟨J,za,bj,bm,bk,S⟩:=jz ((l).getD (o+i) 0) 0 I wM wM oM;refine lV 30 (.tuple #[mV J,mV za]) ?_ (hr:=eL kR (S _));refine lL a [.c,.v (mV J),.v (mV za)] (Jc 33 rb o n c 1 (i:Nat) i (o+i) ?_);refine Lc 0 l aq 1 (o+i) J a oM (fun _ pu a=>?_);replace e:=e.put pu (ti.2 rfl) a.g;have zc:((l).set (o+i) J).length=u.length:=by rw[NI];exact H
  replace a:=a.to [⟨rb,42,((l).set (o+i) J).flatMap aq⟩] [];refine lL a ac (lN (kQ (bw 34 ((i:Nat)+1) (i+1) ?_)));refine lL a ac (lD ?_);intro a_ Z;refine ⟨_,_,?_,⟨i+1,(l).set (o+i) J,za,h2,rfl,rfl,a.to _ _,oM,zc,(L.set _ oM),oM,(by rw[mg oM];exact i5 (by rw[bT oM];omega) inv (by rw[W oM];first|omega|(have hy0:=cB (l:=wds y) (k:=i) oM;omega))),e⟩,Z.to _ kR⟩
  omega
 have Q:=oT B;refine lB 16 B (ak (kQ (lL a ax (lX 19 D m d 1 (i:Nat) i ((a.f.1).ok oM) ?_))));refine lH 20 (mV ((wds y).getD i 0)) a ((a.f.1).el i oM) (lL a ac (lN (kQ (lL a m4 (Jc 26 rb o n c 1 (i:Nat) i (o+i) ?_)))));refine lQ 27 0 l aq 1 0 (o+i) (mV ((l).getD (o+i) 0)) a oM (lL a ax ?_);obtain ⟨p,zb,bn,bl,bb,M⟩:=jz ((l).getD (o+i) 0) ((wds y).getD i 0) I wM wM oM;refine lV 30 (.tuple #[mV p,mV zb]) ?_ (hr:=eL kR (M _));refine lL a [.c,.v (mV p),.v (mV zb)] (Jc 33 rb o n c 1 (i:Nat) i (o+i) ?_);refine Lc 0 l aq 1 (o+i) p a oM (fun _ pu a=>?_);replace e:=e.put pu (ti.2 rfl) a.g;have zd:((l).set (o+i) p).length=u.length:=by rw[NI];exact H
 replace a:=a.to [⟨rb,42,((l).set (o+i) p).flatMap aq⟩] [];refine lL a ac (lN (kQ (bw 34 ((i:Nat)+1) (i+1) ?_)));refine lL a ac (lD ?_);intro a_ Z;refine ⟨_,_,?_,⟨i+1,(l).set (o+i) p,zb,h2,rfl,rfl,a.to _ _,oM,zd,(L.set _ oM),oM,(by rw[mg oM];exact i5 (by rw[bT oM];omega) inv (by rw[W oM];first|omega|(have hy0:=cB (l:=wds y) (k:=i) oM;omega))),e⟩,Z.to _ kR⟩
 omega
theorem Tz.le {n k m:Nat}(t:Tz n k m):m<=n:=by rw[t.1];exact Oh m (M0 k)
theorem iB (a b):(bY a b=0/\a=b)\/(bY a b = -1/\a<b)\/(bY a b=1/\b<a):=by
 rcases Nat.lt_trichotomy a b with h|h|h
 ·exact .inr (.inl ⟨ei h,h⟩)
 ·exact .inl ⟨jv h,h⟩
 ·exact .inr (.inr ⟨f5 h,h⟩)
theorem xp (A c D d x y n a i e)(p:i=wds x)(z:e=wds y)(hn:i.length=n)(f:e.length=a)(j:n<=(10^9))(o:a<=(10^9))(w h)(g:G w h)(l:SlO 1 aq 0 h A i)(u:SlO 1 aq 0 h D e):CV 157 #[.slice A n c,.slice D a d] w h (iV (bY x y)):=by
 subst p z;exact AB A c D d x y n a hn f oM oM w h g l u
theorem JB (A c l n x)(a:l=wds x)(hn:l.length=n)(e:n<=(10^9))(w h)(g:G w h)(d:SlO 1 aq 0 h A l):CV 159 #[.slice A n c] w h (nv x):=by
 subst a;have:=DZ A c (wds x) n hn (Wd.wds x) oM w h g d
 rwa [a7] at this
theorem x7 (rb a o n c x)(B:a.length<=(10^9))(j:o+n<=a.length)(u:n<=c)(p:Wd a)(e:win a o n=wds x)(D d y m i)(K:i=wds y)(I:i.length=m)(C:m<=d)(l:y<=x)(w h)(g:G w h)(F:Own w rb 42 (a.flatMap aq))(H:h[rb]?=some bp)(J:SlO 1 aq 0 h D i):Calls Tryz.prog 158 #[.slice (some ⟨rb,o,none⟩) n c,.slice D m d] w (fl rb w h fun v w' _=>∃ z:List Nat,∃ o' f c':Nat,v=.slice (some ⟨rb,o',none⟩) f c'/\z.length=a.length/\Wd z/\o'+f<=z.length/\f<=c'/\win z o' f=wds (x-y)/\Own w' rb 42 (z.flatMap aq)):=by
 subst K;exact Kv rb a o n c x B j u p e D d y m I C l w h g F H J
theorem FR (x y)(hx:0<x)(hy:0<y)(hlx:(wds x).length<=(10^9))(hly:(wds y).length<=(10^9))(w h)(g:G w h)(tb:Tab h):CV 103 #[nv x,nv y] w h (nv (N1 x y)):=by
 have e:=((sS g).add (K:=fun h_=>Tab h_) tb);have hpx:=hx;have hpy:=hy;refine go Tryz.func103 [(0,nv x),(1,nv y)] rfl (aA (lA 2 44 (nc x) e (fun b1 w2 h3 e=>lA 3 44 (nc y) e (fun b4 w5 h6 e=>lA 4 44 ([uV 0,eS]) e (fun X w8 h9 e=>ag ?_)))));obtain ⟨K_,hK_⟩:∃ K_,K_=w8.heap.size:=⟨_,rfl⟩;have f6:X<K_:=by rw[hK_];exact fE e 0
 have cf:b4<K_:=by rw[hK_];exact fE e 1
 have cq:b1<K_:=by rw[hK_];exact fE e 2
 refine xE ⟨[],some (K_,[])⟩ 0 mixed ?_;have hc:=e.g.size;replace e:=e.drew;have W:=Nat.le_of_eq hK_;refine zO 0 10 [(2,0,2)] (nv x) rfl W e (fun p hp=>by obtain rfl:=ti.1 hp;exact cq) (zO 2 12 [(1,0,2)] (nv y) rfl W e (fun p hp=>by obtain rfl:=ti.1 hp;exact cf) (sO 1 11 (BM x oM oM _ _ e.g) rfl W ?_));rintro _ _ _ u12 W ⟨I,rfl,c7,d3,hj⟩;obtain ⟨_,e,-,-⟩:=e.take u12 c7 d3;replace e:=e.to [⟨I,42,(wds x).flatMap aq⟩,⟨X,44,[uV 0,eS]⟩,⟨b4,44,nc y⟩,⟨b1,44,nc x⟩] [];refine sO 3 13 (BM y oM oM _ _ e.g) rfl W ?_;rintro _ _ _ u16 W ⟨M,rfl,d0,dv,hm⟩;obtain ⟨_,e,-,-⟩:=e.take u16 d0 dv;replace e:=e.to [⟨M,42,(wds y).flatMap aq⟩,⟨I,42,(wds x).flatMap aq⟩,⟨X,44,[uV 0,eS]⟩,⟨b4,44,nc y⟩,⟨b1,44,nc x⟩] [];refine zV 4 5 (qS (sB I) ((wds x).length) ((wds x).length)) (zV 5 6 (qS (sB M) ((wds y).length) ((wds y).length)) (rm (lL e ac (LY 15 1 e (fun _ g_ f_ V=>tK (sB I) (wds x).length (wds x) (wds x).length rfl (Wd.wds x) (by rw[a7];omega) oM _ _ g_ (f_.1) (SlO.of_flat (sz:=1) (f:=aq) (d:=0) (b:=I) (o:=0) (l:=wds x) (fun _=>rfl) V)) ?_))));rintro _ _ _ e ⟨kx,mx,rfl,htx,hkx⟩;rw[a7] at htx
 refine lL e ac (LY 17 0 e (fun _ g_ f_ V=>tK (sB M) (wds y).length (wds y) (wds y).length rfl (Wd.wds y) (by rw[a7];omega) oM _ _ g_ (f_.1) (SlO.of_flat (sz:=1) (f:=aq) (d:=0) (b:=M) (o:=0) (l:=wds y) (fun _=>rfl) V)) ?_);rintro _ _ _ e ⟨ky,my,rfl,hty,hky⟩;rw[a7] at hty
 refine lV 18 (nV (min kx ky)) ?_ (hr:=aK (n:=if (ky:Int)<(kx:Int) then (ky:Int) else (kx:Int)) kR (by split<;>omega));refine lL e ac (aG (lL e ac (gH 20 (wh I (wds x) 0 ((wds x).length) ((wds x).length) x hpx oM oM (nR _) (Wd.wds x) (ve _ _ (nR _)) _ _ e.g (e.own 1) (e.jk 1) e.f.1) ?_)));rintro _ _ _ u27 ⟨z24,o24,n24,zl,rfl,d6,bq,b6,cw,⟨ht,c8,u,b2⟩,dx⟩;replace e:=(e.stepM 1 u27 dx).to [⟨M,42,(wds y).flatMap aq⟩,⟨I,42,(z24).flatMap aq⟩,⟨X,44,[uV 0,eS]⟩,⟨b4,44,nc y⟩,⟨b1,44,nc x⟩] [];have c5:=u.odd_pos;have fm:=u.le;refine lL e ac (gH 22 (wh M (wds y) 0 ((wds y).length) ((wds y).length) y hpy oM oM (nR _) (Wd.wds y) (ve _ _ (nR _)) _ _ e.g (e.own 0) (e.jk 0) e.f.1) ?_);rintro _ _ zm u31 ⟨z28,o28,n28,zn,rfl,f1,bk,c6,br,⟨hl,d1,j,bj⟩,df⟩;replace e:=(e.stepM 0 u31 df).to [⟨M,42,(z28).flatMap aq⟩,⟨I,42,(z24).flatMap aq⟩,⟨X,44,[uV 0,eS]⟩,⟨b4,44,nc y⟩,⟨b1,44,nc x⟩] [];have b0:=j.odd_pos;have f9:=j.le;refine lL e ax (ag (kZ ?_));refine bH _ (CG.loop (fun μ_ Γ w_=>∃ (J:Nat)(L:List Nat)(U:Nat)(S:Nat)(c1:Nat)(Q:Nat)(l2:List Nat)(Z:Nat)(Y:Nat)(c2:Nat)(C:Nat)(y1:Nat)(h_:Hp),μ_=C+y1/\Γ=[(4,pB X),(7,nV (min kx ky)),(5,qS (some ⟨J,U,none⟩) S c1),(6,qS (some ⟨Q,Z,none⟩) Y c2)]/\SS w h w_ h_ [⟨Q,42,(l2).flatMap aq⟩,⟨J,42,(L).flatMap aq⟩,⟨X,44,[uV 0,eS]⟩,⟨b4,44,nc y⟩,⟨b1,44,nc x⟩] [] [fun h_=>Tab h_]/\L.length<=(10^9)/\Wd L/\U+S<=L.length/\S<=c1/\win L U S=wds C/\0<C/\l2.length<=(10^9)/\Wd l2/\Z+Y<=l2.length/\Y<=c2/\win l2 Z Y=wds y1/\0<y1/\C%2=1/\y1%2=1/\N1 C y1*2^min kx ky=N1 x y) _ ⟨I,z24,o24,n24,zl,M,z28,o28,n28,zn,c8,d1,zm,rfl,rfl,e.to _ _,oM,bq,b6,cw,b2,c5,oM,bk,c6,br,bj,b0,u.2,j.2,(by rw[(htx.uniq u).1,(hty.uniq j).1];exact (Df u j).symm)⟩ ?_);rintro _ _ _ ⟨J,L,U,S,c1,Q,l2,Z,Y,c2,C,y1,_,hw,rfl,e,hl1,hW1,D,bb,i,hx1,hl2,hW2,O,bd,B,hy1,hxo,hyo,hG⟩;have hb:=iB C y1;have dp:=congrArg NT i;rw[bT D] at dp
 have ds:=congrArg NT B;rw[bT O] at ds;refine kZ (aa e ax (Lu 25 1 0 e (fun _ g_ f_ V sh_=>xp (some ⟨J,U,none⟩) c1 (some ⟨Q,Z,none⟩) c2 C y1 S Y (win L U S) (win l2 Z Y) i B (bT D) (bT O) oM oM _ _ g_ (SlO.win (f:=aq) (d:=0) (b:=J) (l:=L) (fun _=>rfl) V U S) (SlO.win (f:=aq) (d:=0) (b:=Q) (l:=l2) (fun _=>rfl) sh_ Z Y)) ?_));rintro _ _ _ e rfl;refine lL e ac (ag (aa e ac ?_));cases za:((bY C y1:Int) == (0:Int))
 .
  have zd:=aj za;refine lB 27 za (ah (cK (cQ (aa e ac ?_))));cases zb:(decide ((bY C y1:Int)<(0:Int)))
  .
   have ze:=oF zb;refine lB 29 zb (ah (cK (kQ (lL e ax (JK 34 1 0 e (fun _ g_ f_ hj_ sh_=>x7 J L U S c1 C oM D bb hW1 i (some ⟨Q,Z,none⟩) c2 y1 Y (win l2 Z Y) B (bT O) bd oM _ _ g_ (e.own 1) hj_ (SlO.win (f:=aq) (d:=0) (b:=Q) (l:=l2) (fun _=>rfl) sh_ Z Y)) ?_)))));rintro _ _ _ u44 ⟨s41,dm,c9,dc,rfl,fn,b9,bl,c3,cp,zi⟩;replace e:=(e.stepM 1 u44 zi).to [⟨Q,42,(l2).flatMap aq⟩,⟨J,42,(s41).flatMap aq⟩,⟨X,44,[uV 0,eS]⟩,⟨b4,44,nc y⟩,⟨b1,44,nc x⟩] [];refine gH 35 (wh J s41 dm c9 dc (C-y1) oM oM bl c3 b9 cp _ _ e.g (e.own 1) (e.jk 1) e.f.1) ?_;rintro _ _ zo u48 ⟨z45,o45,n45,zp,rfl,f8,b5,cd,bm,⟨hd,dn,F,cr⟩,d5⟩;replace e:=(e.stepM 1 u48 d5).to [⟨Q,42,(l2).flatMap aq⟩,⟨J,42,(z45).flatMap aq⟩,⟨X,44,[uV 0,eS]⟩,⟨b4,44,nc y⟩,⟨b1,44,nc x⟩] [];have bz:=F.odd_pos;have f7:=F.le;refine lL e ac (lD ?_);intro a_ ka;refine ⟨_,_,?_,⟨J,z45,o45,n45,zp,Q,l2,Z,Y,c2,dn,y1,zo,rfl,rfl,e.to _ _,oM,b5,cd,bm,cr,bz,oM,hW2,O,bd,B,hy1,F.2,hyo,(by rw[wk oM hyo F];exact hG)⟩,ka.to _ kR⟩
   omega
  have ze:=oT zb;refine lB 29 zb (ak (kQ (lL e m4 (lN (kQ (lL e ax (JK 34 0 1 e (fun _ g_ f_ hj_ sh_=>x7 Q l2 Z Y c2 y1 oM O bd hW2 B (some ⟨J,U,none⟩) c1 C S (win L U S) i (bT D) bb oM _ _ g_ (e.own 0) hj_ (SlO.win (f:=aq) (d:=0) (b:=J) (l:=L) (fun _=>rfl) sh_ U S)) ?_)))))));rintro _ _ _ u67 ⟨s64,d4,dw,d2,rfl,fp,ch,cm,cj,bn,zj⟩;replace e:=(e.stepM 0 u67 zj).to [⟨Q,42,(s64).flatMap aq⟩,⟨J,42,(L).flatMap aq⟩,⟨X,44,[uV 0,eS]⟩,⟨b4,44,nc y⟩,⟨b1,44,nc x⟩] [];refine gH 35 (wh Q s64 d4 dw d2 (y1-C) oM oM cm cj ch bn _ _ e.g (e.own 0) (e.jk 0) e.f.1) ?_;rintro _ _ zq u71 ⟨z68,o68,n68,zr,rfl,f2,c4,b3,cx,⟨hq,dy,H,cy⟩,dz⟩;replace e:=(e.stepM 0 u71 dz).to [⟨Q,42,(z68).flatMap aq⟩,⟨J,42,(L).flatMap aq⟩,⟨X,44,[uV 0,eS]⟩,⟨b4,44,nc y⟩,⟨b1,44,nc x⟩] [];have cz:=H.odd_pos;have f3:=H.le;refine lL e ac (lD ?_);replace e:=e.perm (List.Perm.swap _ _ _);intro a_ ka;refine ⟨_,_,?_,⟨Q,z68,o68,n68,zr,J,L,U,S,c1,dy,C,zq,rfl,rfl,e.to _ _,oM,c4,b3,cx,cy,cz,oM,hW1,D,bb,i,hx1,H.2,hxo,(by rw[wk oM hxo H,N2];exact hG)⟩,ka.to _ kR⟩
  omega
 have zd:=eq_of_beq za;refine lB 27 za (ak (CG.exit ?_))
 show CG _ _ _ _ _ _ _ _
 refine aa e ac (LY 37 1 e (fun _ g_ f_ V=>JB (some ⟨J,U,none⟩) c1 (win L U S) S C i (bT D) oM _ _ g_ (SlO.win (f:=aq) (d:=0) (b:=J) (l:=L) (fun _=>rfl) V U S)) ?_);rintro _ _ _ e rfl;refine lA 9 44 ([uV 0,eS]) e (fun zg _ zs e=>lP 0 0 (nc C) e (fun _ e=>ag (kZ ?_)));refine bH _ (CG.loop (fun μ_ Γ w_=>∃ (z:Int)(a:Nat)(h_:Hp),μ_=z.toNat/\Γ=[(4,pB X),(9,pB zg),(7,iV z)]/\SS w h w_ h_ [⟨zg,44,nc a⟩,⟨Q,42,(l2).flatMap aq⟩,⟨J,42,(L).flatMap aq⟩,⟨X,44,[uV 0,eS]⟩,⟨b4,44,nc y⟩,⟨b1,44,nc x⟩] [] [fun h_=>Tab h_]/\z<=64000000000/\a*2^z.toNat=N1 x y) _ ⟨((min kx ky:Nat):Int),C,zs,rfl,rfl,e.to _ _,oM,(by rw[show C=y1 by omega,Nat.gcd_self] at hG;rw[show C=y1 by omega];rw[show (((min kx ky:Nat):Int)).toNat=min kx ky by omega];exact hG)⟩ ?_);rintro _ _ _ ⟨z,a,_,hh,rfl,e,hz,ha⟩;refine cQ (aa e ac ?_);cases zc:(decide ((0:Int)<(z:Int)))
 .
  have zf:=oF zc;refine lB 39 zc (ah (CG.exit ?_))
  show CG _ _ _ _ _ _ _ _
  exact aa e [.o (nv a) 0 0 2] (lP 3 0 (nc a) e (fun _ e=>ae e [(3,0,2)] (nv a) (by rw[show z.toNat=0 by omega,Nat.pow_zero,Nat.mul_one] at ha;rw[ha])))
 have zf:=oT zc;refine lB 39 zc (ak (cK (cQ (kZ (kQ (lL e [.o (nv a) 0 0 2,.c] (lV 44 (nV (min z.toNat 65536)) ?_ (hr:=aK (n:=if (65536:Int)<z then (65536:Int) else z) kR (by split<;>omega)))))))));refine ar 45 e (Hf a (min z.toNat 65536) (by have:=dr (show a<=x by exact ep (Nat.le_mul_of_pos_right a (M0 z.toNat)) (by rw[ha];exact Oi y hx));omega) oM _ _ e.g) (fun _ zk e=>lP 0 0 (nc (a*2^min z.toNat 65536)) e (fun _ e=>lN (kQ (lL e ac (lI 41 (z-65536) ?_)))));refine lL e ac (lD ?_);intro a_ ka;refine ⟨_,_,?_,⟨z-65536,a*2^min z.toNat 65536,zk,rfl,rfl,e.to _ _,oM,(by rw[MT,<-Nat.pow_add,show min z.toNat 65536+(z-65536).toNat=z.toNat by omega];exact ha)⟩,ka.to _ kR⟩
 omega
theorem nU (n):(n=0/\nb n=0)\/(0<n/\0<nb n):=by
 rcases B2 n with h|h
 ·subst h;exact .inl ⟨rfl,rfl⟩
 ·exact .inr ⟨h,(cI h).2.2⟩
theorem kB (x y):N1 y (x%y)=N1 x y:=by rw[N2 y,<-Nat.gcd_rec,N2]
theorem G7 (n w h)(g:G w h):CR 102 #[nv n] w h (fun v _=>∃ s:Nat,∃ ok:Bool,v=.tuple #[mV s,.bool ok]/\(ok=true->s=n/\n<(2^64))):=by
 rcases ea n (2^64) with hn|hn
 ·refine (vV n hn w h g).mono ?_
  rintro _ w' ⟨_,a,rfl,u,rfl⟩;exact ⟨_,a,rfl,u,n,true,rfl,fun _=>⟨rfl,hn⟩⟩
 ·refine (E9 n hn w h g).mono ?_
  rintro _ w' ⟨_,a,rfl,u,rfl⟩;exact ⟨_,a,rfl,u,0,false,rfl,fun e=>by cases e⟩
theorem Lq (a b)(hla:(wds (ab a)).length<=(10^9))(hlb:(wds (ab b)).length<=(10^9))(w h)(g:G w h)(tb:Tab h):CV 55 #[iv a,iv b] w h (nv (N1 (ab a) (ab b))):=by
 have d:=((sS g).add (K:=fun B=>Tab B) tb);refine go Tryz.func55 [(0,iv a),(1,iv b)] rfl (aA (lA 2 46 (ic a) d (fun b1 w2 h3 d=>lA 3 46 (ic b) d (fun Y w5 h6 d=>lA 4 44 ([uV 0,eS]) d (fun W w8 h9 d=>ag ?_)))));have z:=d;refine Gh 6 [⟨4,5,.cells (Oj [uV 0,eS]) 44 (0,0)⟩,⟨5,6,.cells (Oj [uV 0,eS]) 44 (0,0)⟩] [] mixed d (bR (fS kR (fun _ _=>by kernel_rfl)) (bR (fS kR (fun _ _=>by kernel_rfl)) ao)) (eV 0 14 (qP b1 1) (eO 1 15 [(2,1,2)] (nv (ab a)) d (eV 2 16 (qP Y 1) (Dj 3 17 [(1,1,2)] (nv (ab b)) z d (I3 z d 44 [uV 0,eS] 44 [uV 0,eS] (fun _ _ L H F J d=>tP 6 0 0 (nc (ab a)) d (fun _ d=>?_) (hz:=jB F)))))));refine tP 7 1 0 (nc (ab b)) d (fun _ d=>?_) (hz:=jB J);refine tN (CG.join (fun Γ Z=>∃ (x:Nat)(y:Nat)(B:Hp),Γ=[(4,pB W),(6,pB H),(5,pB L)]/\SS w h Z B [⟨L,44,nc x⟩,⟨H,44,nc y⟩,⟨W,44,[uV 0,eS]⟩,⟨Y,46,ic b⟩,⟨b1,46,ic a⟩] [] [fun B=>Tab B]/\(wds x).length<=(10^9)/\(wds y).length<=(10^9)/\N1 x y=N1 (ab a) (ab b)) ?_ ?_)
 .
  refine aa d [.o (nv (ab a)) 0 0 2,.o (nv (ab b)) 1 0 2] (ar 20 d (mM (ab a) (ab b) aM aM _ _ d.g) (fun _ zm d=>?_));have hcm:=iB (ab a) (ab b);cases V:(decide ((bY (ab a) (ab b):Int)<(0:Int)))
  .
   have zi:=oF V;refine lB 21 V (ah (CG.skip ?_));intro a_ I;exact ⟨_,⟨(ab a),(ab b),zm,rfl,d.to _ _,aM,aM,(by first|rfl|exact N2 _ _)⟩,I.to _ kR⟩
  have zi:=oT V;refine lB 21 V (ak (kQ (lL d [.o (nv (ab b)) 1 0 2,.o (nv (ab a)) 0 0 2] (lP 0 0 (nc (ab b)) d (fun _ d=>lP 1 0 (nc (ab a)) d (fun _ d=>lD ?_))))));intro a_ I;exact ⟨_,⟨(ab b),(ab a),zm,rfl,d.to _ _,aM,aM,(by first|rfl|exact N2 _ _)⟩,I.to _ kR⟩
 rintro _ _ ⟨x,y,_,rfl,d,hlx,hly,M⟩;refine cQ (aa d [.o (nv y) 1 0 2] (ar 25 d (gl y (by first|assumption|exact av (Ok (As _ oM)) aM) _ _ d.g) (fun _ _ d=>?_)));have bj:=nU y;cases X:(((nb y:Nat):Int) == (0:Int))
 .
  have zj:=aj X;refine lB 26 X (ah (cK (aa d [.o (nv x) 0 0 2,.o (nv y) 1 0 2] (ar 31 d (JW x y oM aM aM _ _ d.g) (fun _ _ d=>?_)))));have hmd:=As x (show 0<y by omega);refine lL d [.c,.v (nv (x/y)),.v (nv (x%y)),.v qT] (lA 7 44 ([uV 0,eS]) d (fun zn _ _ d=>lA 8 44 ([uV 0,eS]) d (fun zo _ _ d=>lP 1 0 (nc (x/y)) d (fun _ d=>lP 0 0 (nc (x%y)) d (fun _ d=>lL d ac (ag ?_))))));have z:=d;refine Gh 2 [] [L,H] mixed d ao (eO 0 35 [(3,0,2)] (nv y) d (Dj 1 36 [(0,0,2)] (nv (x%y)) z d ?_ (hM:=fun p hp=>by obtain rfl:=ti.1 hp;exact fun O=>by rcases hC.1 O with e|O;exact gU d.st (i:=0) (j:=2) kR kR kR e;rcases hC.1 O with e|O;exact gU d.st (i:=0) (j:=3) kR kR kR e;cases O)));refine bM d (fun _ _ d=>tP 2 2 0 (nc y) d (fun _ d=>?_) (hz:=gN (N5)));refine tP 3 3 0 (nc (x%y)) d (fun _ d=>?_) (hz:=gN (List.mem_cons_of_mem _<|N5));refine tN (cQ (aA ?_));have D:N1 y (x%y)=N1 (ab a) (ab b):=by rw[<-M];exact kB _ _
  refine lL d [.o (nv (x%y)) 3 0 2] (ar 38 d (gl (x%y) (by first|assumption|exact av (Ok (As _ oM)) aM) _ _ d.g) (fun _ _ d=>?_));have bd:=nU (x%y);cases Q:(((nb (x%y):Nat):Int) == (0:Int))
  .
   have zk:=aj Q;refine lB 39 Q (ah (cK (cQ (aa d [.o (nv y) 2 0 2] (lC 43 d (G7 y _ _ d.g) ?_)))));rintro _ _ _ d ⟨sp,ok,rfl,l⟩;refine lL d [.c,.v (mV sp),.v (.bool ok),.c,.c] (aG (lL d ac (lN ?_)));cases U:(ok)
   .
    try rw[U] at d
    try rw[U]
    exact dE (cK (aa d [.o (nv y) 2 0 2,.o (nv (x%y)) 3 0 2] (ar 62 d (FR y (x%y) oM oM (by first|assumption|exact av (Ok (As _ oM)) aM) (by first|assumption|exact av (Ok (As _ oM)) aM) _ _ d.g d.f.1) (fun _ _ d=>lP 4 0 (nc (N1 y (x%y))) d (fun _ d=>ae d [(4,0,2)] (nv (N1 y (x%y))) (congrArg nv D))))))
   try rw[U] at d
   try rw[U]
   refine ck (aa d [.o (nv (x%y)) 3 0 2] (ar 49 d (vV (x%y) (by have C:=l aM;omega) _ _ d.g) (fun _ zp d=>lL d [.c,.v (mV (x%y)),.v qT,.c,.c] (ag (kZ ?_)))));refine bH _ (CG.loop (fun μ_ Γ Z=>∃ (p:Nat)(q:Nat)(B:Hp),μ_=q/\Γ=[(4,pB W),(6,pB H),(5,pB L),(10,mV p),(12,mV q)]/\SS w h Z B [⟨zo,44,nc (x%y)⟩,⟨zn,44,nc (x/y)⟩,⟨L,44,nc y⟩,⟨H,44,nc (x%y)⟩,⟨W,44,[uV 0,eS]⟩,⟨Y,46,ic b⟩,⟨b1,46,ic a⟩] [] [fun B=>Tab B]/\p<(2^64)/\q<(2^64)/\N1 p q=N1 (ab a) (ab b)) _ ⟨sp,(x%y),zp,rfl,rfl,d.to _ _,(by have C:=l aM;omega),(by have C:=l aM;omega),(by rw[(l aM).1];exact D)⟩ ?_);rintro _ _ _ ⟨p,q,_,bb,rfl,d,hp,hq,hG⟩;refine cQ (aa d ac ?_);cases S:(decide ((0:Int)<(q:Int)))
   .
    have zl:=oF S;refine lB 53 S (ah (CG.exit ?_))
    show CG _ _ _ _ _ _ _ _
    exact aa d ac (ar 59 d (La p hp _ _ d.g) (fun _ _ d=>lP 4 0 (nc p) d (fun _ d=>ae d [(4,0,2)] (nv p) (congrArg nv (by rw[<-hG,show q=0 by omega,Ol])))))
   have zl:=oT S;refine lB 53 S (ak (cK (kZ (cR 4 [] mixed d ao ?_))));refine eV 0 54 (mV q) (eV 1 55 (mV p) (eV 2 56 (mV q) (eV 3 57 (mV (p%q)) ?_ (hv:=fun _=>aK (fP (t:=42) (u:=42) (x:=.tmp 55) (y:=.tmp 56) (k:=.u64) (a:=(p:Int)) (b:=(q:Int)) kR kR kR oM _) (dH p q)))));refine bM d (fun _ zq d=>tV 4 10 (mV q) (tV 5 12 (mV (p%q)) (tD ?_)));intro a_ I;refine ⟨_,_,?_,⟨q,p%q,zq,rfl,rfl,d.to _ _,hq,(by have:=As p (show 0<q by omega);omega),(by rw[kB];exact hG)⟩,I.to _ kR⟩;have bk:=As p (show 0<q by omega)
   omega
  have zk:=eq_of_beq Q;exact lB 39 Q (ak (aa d [.o (nv y) 2 0 2] (lP 4 0 (nc y) d (fun _ d=>ae d [(4,0,2)] (nv y) (congrArg nv (by rw[<-D,show (x%y)=0 by omega,Ol]))))))
 have zj:=eq_of_beq X;exact lB 26 X (ak (aa d [.o (nv x) 0 0 2] (lP 2 0 (nc x) d (fun _ d=>ae d [(2,0,2)] (nv x) (congrArg nv (by rw[<-M,show y=0 by omega,Ol]))))))
theorem re (z:Int)(b:Nat)(e:(b:Int)∣z):bD (decide (z.sign<0)) (ab z/b)=z/b:=by
 obtain ⟨k,rfl⟩:=e
 rcases B2 b with hb|hb
 ·subst hb;simp[bD,ab]
 have a:ab ((b:Int)*k)/b=k.natAbs:=by
  unfold ab;rw[Om,On,Og _ hb]
 have c:((b:Int)*k)/b=k:=Oo _ oM;have d:((b:Int)*k).sign=k.sign:=by rw[Int.sign_mul,Int.sign_natCast_of_ne_zero oM,Int.one_mul]
 rw[a,c,d];unfold bD;rcases Oq k 0 with h|h|h
 ·rw[Ot h];simp;omega
 ·subst h;simp
 ·rw[Ou h];simp;omega
theorem mh (a b:Rat):∀ g h:Nat,∀ up:Int,g=N1 a.den b.den->up=a.num*((b.den/g:Nat):Int)+b.num*((a.den/g:Nat):Int)->h=N1 (ab up) g ->
    (a+b).num=up/h/\(a+b).den=(a.den/g)*(b.den/h)/\(h:Int)∣up/\h∣b.den/\0<h/\0<g:=by
  intro g h up c f d;have j:0<g:=by rw[c];exact Nat.gcd_pos_of_pos_left _ a.den_pos
  have l:0<h:=by rw[d];exact Ov _ j
  have y:g∣a.den:=by rw[c];exact Ow _ _
  have o:g∣b.den:=by rw[c];exact Ox _ _
  have u:h∣g:=by rw[d];exact Ox _ _
  have p:(h:Int)∣up:=by
    have h1:h∣up.natAbs:=by rw[d];exact Ow _ _
    exact Oy (Oz.2 h1) (OA.2 (OB _))
  have i:h∣b.den:=Nat.dvd_trans u o;refine ⟨?_,?_,p,i,l,j⟩
  . show (OC a b).num=_
    delta OC;dsimp only;split
    . rename_i h1
      have x:g=1:=by rw[c];exact h1
      dsimp only;clear h1 c;subst x;have e:h=1:=by rw[d];simp
      rw[e,f];simp
    . subst c f d
      dsimp only[OD];split
      . rename_i h1
        dsimp only;unfold ab;rw[h1];simp
      . dsimp only
        rw[OE];rfl
  . show (OC a b).den=_
    delta OC;dsimp only;split
    . rename_i h1
      have x:g=1:=by rw[c];exact h1
      dsimp only;clear h1 c;subst x;have e:h=1:=by rw[d];simp
      rw[e];simp
    . subst c f d
      dsimp only[OD];split
      . rename_i h1
        dsimp only;unfold ab;rw[h1];simp
      . dsimp only
        rw[OF];unfold ab at *;rw[Nat.mul_div_assoc _ i]
theorem l8 (a b:Rat):∀ g h:Nat,g=N1 (ab a.num) b.den->h=N1 (ab b.num) a.den ->
  (a*b).num=(a.num/g)*(b.num/h)/\(a*b).den=(a.den/h)*(b.den/g)/\(g:Int)∣a.num/\(h:Int)∣b.num/\0<g/\0<h:=by
 intro g h c d;have f:0<g:=by rw[c];exact Ov _ b.den_pos
 have e:0<h:=by rw[d];exact Ov _ a.den_pos
 have i:(g:Int)∣a.num:=by
  have h1:g∣a.num.natAbs:=by rw[c];exact Ow _ _
  exact Oy (Oz.2 h1) (OA.2 (OB _))
 have j:(h:Int)∣b.num:=by
  have h1:h∣b.num.natAbs:=by rw[d];exact Ow _ _
  exact Oy (Oz.2 h1) (OA.2 (OB _))
 refine ⟨?_,?_,i,j,f,e⟩
 ·show (OG a b).num=_
  delta OG;dsimp only;rw[OE,OE,c,d];rfl
 ·show (OG a b).den=_
  delta OG;dsimp only;rw[OF,OF,c,d];rfl
theorem jd (n d)(c:0<d):(mkRat n d).num=n/(N1 (ab n) d:Nat)/\(mkRat n d).den=d/N1 (ab n) d/\((N1 (ab n) d:Nat):Int)∣n/\0<N1 (ab n) d:=by
 have a:((N1 (ab n) d:Nat):Int)∣n:=by
  have h1:N1 (ab n) d∣n.natAbs:=Ow _ _;exact Oy (Oz.2 h1) (OA.2 (OB _))
 unfold mkRat;rw[dif_neg oM,Rat.normalize_eq];exact ⟨rfl,rfl,a,Ov _ c⟩
theorem uK (b:Rat)(h:b.num≠0):(b⁻¹).num=bD (decide (b.num.sign<0)) b.den/\(b⁻¹).den=ab b.num:=by
 have e:b⁻¹=Rat.inv b:=rfl;rw[e]
 delta Rat.inv;split
 ·rename_i h1
  rw[Ot h1];simp[bD,ab]
 ·split
  ·rename_i h1
   rw[Ou h1];simp[bD,ab]
  ·omega
def LQ (k:Nat)(q:Rat):Prop:=(wds (ab q.num)).length<=k/\(wds q.den).length<=k
theorem fi (n w h)(g:G w h):CV 56 #[.bool false,nv n] w h (iv (n:Int)):=Cs n w h g
theorem kN (x y:Int)(d)(e:d=N1 (ab x) (ab y))(c:(wds (ab x)).length<=(10^9))(a:(wds (ab y)).length<=(10^9))(w h)(g:G w h)(f:Tab h):CV 55 #[iv x,iv y] w h (nv d):=by
 subst e;exact Lq x y c a w h g f
theorem BG {n:Nat}:nb n=1↔n=1:=by
 rcases B2 n with h|h
 ·subst h;simp[nb]
 ·have h1:=cI h
  constructor
  ·intro e;rw[e] at h1;omega
  ·intro e;subst e;rfl
theorem sh {n:Nat}:nb n=0↔n=0:=by
 rcases nU n with ⟨h1,h2⟩|⟨h1,h2⟩<;>omega
theorem nL {q:Rat}(h:q.den=1):qd q=0:=by unfold qd;rw[if_pos h]
theorem Gs {q:Rat}(h:q.den≠1):qd q=q.den:=by unfold qd;rw[if_neg h]
theorem EB {q:Rat}:qd q=0↔q.den=1:=by
 unfold qd;have:=q.den_pos
 split<;>omega
theorem MD (q):(((nb (qd q):Nat):Int) == (0:Int))=decide (q.den=1):=by
 rw[Bool.eq_iff_iff];simp only[beq_iff_eq,decide_eq_true_eq];rw[<-EB,<-sh];omega
theorem jX {q:Rat}{z:Int}{d:Nat}(hz:q.num=z)(a:qd q=d):Value.agg #[.bool (af z),.int .u64 (lo (ab z)),.string (hi (ab z)),.int .u64 (lo d),.string (hi d)]=qv q:=by subst hz a;rfl
theorem LQ.qd {k:Nat}{q:Rat}(h:LQ k q):(wds (qd q)).length<=k:=by
 unfold Go.Proofs.YtjljjeiejbhegaaGreatDoor.qd;split
 ·exact NY _
 ·exact h.2
theorem JN (a)(ha:LQ (10^9) a)(w h)(g:G w h):CV 58 #[iv a.num,nv a.den] w h (qv a):=by
 have c:=sS g;obtain ⟨f,l⟩:=ha;have i:=@BG a.den;refine go Tryz.func58 [(0,iv a.num),(1,nv a.den)] rfl (aA (lA 2 46 (ic a.num) c (fun C w2 y c=>lA 3 44 (nc a.den) c (fun p z x c=>lA 4 48 a6 c (fun B D u c=>ag (aa c [.o (nv a.den) 1 0 2] (ar 6 c (gl a.den de _ _ c.g) (fun _ _ c=>?_))))))));cases e:(((nb a.den:Nat):Int) == (1:Int))
 .
  have j:=aj e;exact lB 7 e (ah (cK (aa c [.o (iv a.num) 2 0 3,.o (nv a.den) 1 0 2,.v (.agg #[.bool (af a.num),uV (lo (ab a.num)),.string (hi (ab a.num)),uV (lo a.den),.string (hi a.den)])] (lP 0 0 ([.bool (af a.num),uV (lo (ab a.num)),.string (hi (ab a.num)),uV (lo a.den),.string (hi a.den)]) c (fun _ c=>ae c [(0,0,5)] (.agg #[.bool (af a.num),uV (lo (ab a.num)),.string (hi (ab a.num)),uV (lo a.den),.string (hi a.den)]) (jX (q:=a) (d:=a.den) rfl (Gs oM)))))))
 have j:=eq_of_beq e;exact lB 7 e (ak (aa c [.o (iv a.num) 2 0 3,.v (.agg #[.bool (af a.num),uV (lo (ab a.num)),.string (hi (ab a.num)),uV 0,eS])] (lP 0 0 ([.bool (af a.num),uV (lo (ab a.num)),.string (hi (ab a.num)),uV 0,eS]) c (fun _ c=>ae c [(0,0,5)] (.agg #[.bool (af a.num),uV (lo (ab a.num)),.string (hi (ab a.num)),uV 0,eS]) (jX (q:=a) (d:=0) rfl (nL oM))))))
theorem k8 (q z d)(hz:q.num=z)(a:d=q.den)(c:LQ (10^9) q)(w h)(g:G w h):CV 58 #[iv z,nv d] w h (qv q):=by
 subst hz a;exact JN q c w h g
theorem cl (z:Int)(g:Nat)(a:(g:Int)∣z):ab (z/g)<=ab z:=by
 unfold ab;rcases B2 g with h|h
 ·subst h;simp
 ·obtain ⟨k,rfl⟩:=a
  rw[Oo _ oM,Om,On];exact Oh _ h
theorem iL (a b)(B:0<b)(i:(wds a).length<=(10^9))(j:(wds b).length<=(10^9))(w h)(g:G w h):CV 60 #[nv a,nv b] w h (nv (a/b)):=by
 have d:=sS g;have u:=@BG b;refine go Tryz.func60 [(0,nv a),(1,nv b)] rfl (aA (lA 2 44 (nc a) d (fun I w2 D d=>lA 3 44 (nc b) d (fun x F C d=>lA 4 44 ([uV 0,eS]) d (fun H z y d=>ag (aa d [.o (nv b) 1 0 2] (ar 9 d (gl b de _ _ d.g) (fun _ _ d=>?_))))))));cases e:(((nb b:Nat):Int) == (1:Int))
 .
  have l:=aj e;exact lB 10 e (ah (cK (aa d [.o (nv a) 2 0 2,.o (nv b) 1 0 2] (ar 15 d (JW a b oM aM aM _ _ d.g) (fun _ _ d=>lL d [.c,.v (nv (a/b)),.v (nv (a%b)),.v qT] (lA 5 44 ([uV 0,eS]) d (fun p _ _ d=>lA 6 44 ([uV 0,eS]) d (fun f _ _ d=>lP 1 0 (nc (a/b)) d (fun _ d=>lP 0 0 (nc (a%b)) d (fun _ d=>lL d ac (aG (lL d [.o (nv (a/b)) 1 0 2] (lP 2 0 (nc (a/b)) d (fun _ d=>ae d [(2,0,2)] (nv (a/b)) rfl))))))))))))))
 have l:=eq_of_beq e;exact lB 10 e (ak (aa d [.o (nv a) 2 0 2] (lP 0 0 (nc a) d (fun _ d=>ae d [(0,0,2)] (nv a) (by rw[show b=1 by omega,Nat.div_one])))))
theorem nQ (z:Int)(b:Nat)(l:0<b)(e:(b:Int)∣z)(c:(wds (ab z)).length<=(10^9))(f:(wds b).length<=(10^9))(w:World)(h:Hp)(g:G w h):CV 59 #[iv z,nv b] w h (iv (z/b)):=by
 have a:=sS g;have d:(wds (ab z/b)).length<=(10^9):=av (L2 _ _) c;refine go Tryz.func59 [(0,iv z),(1,nv b)] rfl (aA (lA 2 46 (ic z) a (fun y w2 p a=>lA 3 44 (nc b) a (fun i u o a=>lA 4 46 ([qF,uV 0,eS]) a (fun x B j a=>ag (cR 8 [] mixed a ao ?_))))));exact eO 0 5 [(2,0,3)] (iv z) a (eO 3 8 [(2,0,3)] (iv z) a (eO 5 10 [(1,0,2)] (nv b) a (au 1 6 a (fun _ _ a=>ne z de _ _ a.g) (fun _ _ a=>eV 2 7 (.bool (decide (((z).sign:Int)<(0:Int)))) (au 4 9 a (fun _ _ a=>Dc z _ _ a.g) (fun _ _ a=>au 6 11 a (fun _ _ a=>iL (ab z) b aM de de _ _ a.g) (fun _ _ a=>au 7 12 a (fun _ _ a=>gE (decide (((z).sign:Int)<(0:Int))) ((ab z)/b) de _ _ a.g) (fun _ _ a=>bM a (fun _ _ a=>tP 8 0 0 (ic (bD (decide (((z).sign:Int)<(0:Int))) ((ab z)/b))) a (fun _ a=>tN (kX (a.ret [(0,0,3)] (iv (bD (decide (((z).sign:Int)<(0:Int))) ((ab z)/b))) (congrArg iv (re z b e))))))))))))))
theorem i4 (z d)(j:(wds (ab z)).length+(wds d).length<=(10^9))(w h)(g:G w h):CV 97 #[iv z,nv d] w h (iv (z*d)):=by
 have a:=sS g;refine go Tryz.func97 [(0,iv z),(1,nv d)] rfl (aA (lA 2 46 (ic z) a (fun i w2 o a=>lA 3 44 (nc d) a (fun c p f a=>lA 4 46 ([qF,uV 0,eS]) a (fun l u e a=>ag (cR 4 [] mixed a ao ?_))))));exact eO 0 5 [(2,0,3)] (iv z) a (eO 1 6 [(1,0,2)] (nv d) a (au 2 7 a (fun _ _ a=>fi d _ _ a.g) (fun _ _ a=>au 3 8 a (fun _ _ a=>Ef z (d:Int) de _ _ a.g) (fun _ _ a=>bM a (fun _ _ a=>tP 4 0 0 (ic (z*(d:Int))) a (fun _ a=>tN (kX (a.ret [(0,0,3)] (iv (z*(d:Int))) rfl))))))))
theorem nF (a)(ha:LQ (10^8) a)(w h)(g:G w h):CV 53 #[qv a] w h (.bool (decide (a.den=1))):=by
 have d:=sS g;have f:=ha.qd;exact go Tryz.func53 [(0,qv a)] rfl (aA (lA 1 48 (qc a) d (fun e w2 l d=>lL d ac (aG (lL d [.v (qP e 3),.o (nv (qd a)) 0 3 2] (ar 5 d (gl (qd a) de _ _ d.g) (fun i j d=>lL d [.v (.bool (((nb (qd a):Nat):Int) == (0:Int))),.c] (ae d [] (.bool (((nb (qd a):Nat):Int) == (0:Int))) (congrArg Value.bool (MD a))))))))))
theorem fy (a)(ha:LQ (10^8) a)(w h)(g:G w h):CV 57 #[qv a] w h (nv a.den):=by
 have c:=sS g;refine go Tryz.func57 [(0,qv a)] rfl (aA (lA 1 48 (qc a) c (fun f w2 u c=>lA 2 44 ([uV 0,eS]) c (fun i x p c=>ag (aa c [.o (qv a) 1 0 5] (ar 4 c (nF a aM _ _ c.g) (fun l j c=>?_)))))));cases e:(decide (a.den=1))
 .
  have d:=oF e;exact ah (cK (aa c [.v (qP f 3),.o (nv (qd a)) 1 3 2] (lP 0 0 (nc (qd a)) c (fun _ c=>ae c [(0,0,2)] (nv (qd a)) (by rw[Gs (by simpa using (by assumption:decide (a.den=1)=false))])))))
 have d:=oT e;exact ak (aA (ar 5 c (La 1 oM _ _ c.g) (fun _ _ c=>lP 0 0 (nc 1) c (fun _ c=>ae c [(0,0,2)] (nv 1) (by rw[show a.den=1 by simpa using (by assumption:decide (a.den=1)=true)])))))
theorem LU (a w h)(g:G w h):CV 180 #[qv a] w h (iv a.num):=by
 have c:=sS g;exact go Tryz.func180 [(0,qv a)] rfl (aA (lA 1 48 (qc a) c (fun d w2 j c=>lA 2 46 ([qF,uV 0,eS]) c (fun e l i c=>aG (lL c [.v (pB d),.o (iv a.num) 1 0 3] (lP 0 0 (ic a.num) c (fun f c=>ae c [(0,0,3)] (iv a.num) rfl)))))))
theorem j8 (a)(ha:LQ (10^8) a)(w h)(g:G w h):CV 139 #[qv a] w h (iV a.num.sign):=by
 have c:=sS g;obtain ⟨d,f⟩:=ha;exact go Tryz.func139 [(0,qv a)] rfl (aA (lA 1 48 (qc a) c (fun e w2 l c=>lL c ac (aG (lL c [.v (pB e),.o (iv a.num) 0 0 3] (ar 5 c (ne a.num de _ _ c.g) (fun i j c=>lL c ac (ae c [] (iV ((a.num).sign)) rfl))))))))
theorem vh (z)(h0 : -(2^63)<=z)(h1:z<=(2^63-1))(w h)(g:G w h):CV 24 #[iV z] w h (qv (z:Rat)):=by
 have a:=sS g;exact go Tryz.func24 [(0,iV z)] rfl (aA (lA 2 48 a6 a (fun i w2 j a=>aG (lL a ac (ar 4 a (MF z oM oM _ _ a.g) (fun c e a=>lL a [.v (.agg #[.bool (af z),uV (lo (ab z)),.string (hi (ab z)),uV 0,eS])] (lP 0 0 ([.bool (af z),uV (lo (ab z)),.string (hi (ab z)),uV 0,eS]) a (fun f a=>ae a [(0,0,5)] (.agg #[.bool (af z),uV (lo (ab z)),.string (hi (ab z)),uV 0,eS]) (jX (d:=0) (OH z) (nL (OI z)))))))))))
theorem KL (a)(ha:LQ (10^8) a)(w h)(g:G w h):CV 52 #[qv a] w h (qv (-a)):=by
 have c:=sS g;obtain ⟨e,f⟩:=ha;refine go Tryz.func52 [(0,qv a)] rfl (aA (lA 1 48 (qc a) c (fun d w2 u c=>lA 2 48 a6 c (fun i x p c=>ag (cR 6 [] mixed c ao ?_)))));exact eV 0 3 (pB d) (eO 1 4 [(1,0,3)] (iv a.num) c (eV 3 6 (qP d 3) (eO 4 7 [(1,3,2)] (nv (qd a)) c (au 2 5 c (fun _ _ c=>KS a.num de _ _ c.g) (fun o l c=>eV 5 8 (.agg #[.bool (af (-a.num)),uV (lo (ab (-a.num))),.string (hi (ab (-a.num))),uV (lo (qd a)),.string (hi (qd a))]) (bM c (fun j _ c=>tP 6 0 0 ([.bool (af (-a.num)),uV (lo (ab (-a.num))),.string (hi (ab (-a.num))),uV (lo (qd a)),.string (hi (qd a))]) c (fun _ c=>tN (kX (c.ret [(0,0,5)] (.agg #[.bool (af (-a.num)),uV (lo (ab (-a.num))),.string (hi (ab (-a.num))),uV (lo (qd a)),.string (hi (qd a))]) (jX (OJ a) (by unfold qd;rw[OK]))))))))))))
theorem vP (z:Int)(d)(u:0<d)(l:(wds (ab z)).length<=(10^9))(j:(wds d).length<=(10^9))(w h)(g:G w h)(y:Tab h):CV 110 #[iv z,nv d] w h (qv (mkRat z d)):=by
 have a:=((sS g).add (K:=fun D=>Tab D) y);obtain ⟨c,e,i,o⟩:=jd z d u;obtain ⟨q,hq⟩:∃ q,q=N1 (ab z) d:=⟨_,rfl⟩;rw[<-hq] at c e i o
 have x:(wds q).length<=(10^9):=av (by rw[hq];exact OL _ u) j;have B:LQ (10^9) (mkRat z d):=⟨by rw[c];exact av (cl z q i) l,by rw[e];exact av (L2 _ _) j⟩;refine go Tryz.func110 [(0,iv z),(1,nv d)] rfl (aA (lA 2 46 (ic z) a (fun Q w2 L a=>lA 3 44 (nc d) a (fun F M J a=>lA 4 48 a6 a (fun O I H a=>ag ?_)))));have p:=a;refine cR 5 [⟨4,5,.cells (Oj [uV 0,eS]) 44 (0,0)⟩] mixed a (bR (fS kR (fun _ _=>by kernel_rfl)) ao) (eO 0 6 [(2,0,3)] (iv z) a (eO 1 7 [(1,0,2)] (nv d) a (au 2 8 a (fun _ _ a=>fi d _ _ a.g) (fun _ _ a=>au 3 9 a (fun _ _ a=>kN z (d:Int) q (by first|assumption|exact hq) de (show (wds d).length<=(10^9) by first|assumption|omega) _ _ a.g a.f.1) (fun _ _ a=>jh [] p a 44 [uV 0,eS] (fun _ _ C a=>tP 5 0 0 (nc q) a (fun _ a=>tN (cQ (cR 7 [] mixed a ao ?_)))))))));exact eO 0 10 [(3,0,3)] (iv z) a (eO 1 11 [(0,0,2)] (nv q) a (eO 3 13 [(2,0,2)] (nv d) a (eO 4 14 [(0,0,2)] (nv q) a (au 2 12 a (fun _ _ a=>nQ z q aM aM de de _ _ a.g) (fun _ _ a=>au 5 15 a (fun _ _ a=>iL d q aM de de _ _ a.g) (fun _ _ a=>au 6 16 a (fun _ _ a=>k8 (mkRat z d) (z/(q:Int)) (d/q) (by first|assumption|exact c|exact (c).symm) (by first|assumption|exact e.symm) aM _ _ a.g) (fun _ _ a=>bM a (fun _ _ a=>tP 7 1 0 (qc (mkRat z d)) a (fun _ a=>tN (kX (a.ret [(1,0,5)] (qv (mkRat z d)) rfl)))))))))))
theorem ej (a)(ha:LQ (10^8) a)(h1:a.den=1)(w h)(g:G w h):CV 53 #[qv a] w h (.bool true):=by
 have:=nF a ha w h g;rwa [decide_eq_true h1] at this
theorem gf (a)(ha:LQ (10^8) a)(h1:a.den≠1)(w h)(g:G w h):CV 53 #[qv a] w h (.bool false):=by
 have:=nF a ha w h g;rwa [decide_eq_false h1] at this
theorem GH (x y z)(e:z=x+y)(a:(wds (ab x)).length+(wds (ab y)).length<=999999999)(w h)(g:G w h):CV 96 #[iv x,iv y] w h (iv z):=by
 subst e;exact KD x y a w h g
theorem js (x y):(wds (ab (x*y))).length<=(wds (ab x)).length+(wds (ab y)).length:=by
 have:ab (x*y)=ab x*ab y:=Om x y;rw[this];exact dL
theorem dR (x d):(wds (ab (x*((d:Nat):Int)))).length<=(wds (ab x)).length+(wds d).length:=js x (d:Int)
theorem rr (x y):(wds (ab (x+y))).length<=(wds (ab x)).length+(wds (ab y)).length+1 :=
 ep (dr (show ab (x+y)<=ab x+ab y from OM x y)) lw
theorem jJ {a b:Rat}(ha:a.den=1)(c:b.den=1):(a+b).num=a.num+b.num/\(a+b).den=1:=by
 obtain ⟨e,d,h,f,j,i⟩:=mh a b 1 1 (a.num+b.num) (by rw[ha,c];rfl) (by rw[ha,c];simp) (by simp);rw[ha,c] at d
 exact ⟨by simpa using e,by simpa using d⟩
theorem jP {a b:Rat}(ha:a.den=1)(c:b.den=1):(a*b).num=a.num*b.num/\(a*b).den=1:=by
 obtain ⟨e,d,h,f,j,i⟩:=l8 a b 1 1 (by rw[c];simp) (by rw[ha];simp);rw[ha,c] at d
 exact ⟨by simpa using e,by simpa using d⟩
theorem H5 (a b:Rat)(ha:LQ (10^8) a)(u:LQ (10^8) b)(i:a.den=1)(f:b.den=1)(w h)(g:G w h)(y:Tab h):CV 51 #[qv a,qv b] w h (qv (a+b)):=by
 have e:=((sS g).add (K:=fun C=>Tab C) y);have j:=ha;have l:=u;obtain ⟨z,D⟩:=j;obtain ⟨F,x⟩:=l;exact go Tryz.func51 [(0,qv a),(1,qv b)] rfl (aA (lA 2 48 (qc a) e (fun B w2 J e=>lA 3 48 (qc b) e (fun p L I e=>lA 4 48 a6 e (fun M O H e=>ag (aa e [.o (qv a) 2 0 5] (ar 11 e (ej a aM aM _ _ e.g) (fun _ _ e=>lL e [.c,.o (qv b) 1 0 5] (ar 14 e (ej b aM aM _ _ e.g) (fun _ _ e=>lL e [.v qT] (ak (aa e [.v (pB B),.o (iv a.num) 2 0 3,.v (pB p),.o (iv b.num) 1 0 3] (ar 20 e (KD a.num b.num de _ _ e.g) (fun _ _ e=>lL e [.v (.agg #[.bool (af (a.num+b.num)),uV (lo (ab (a.num+b.num))),.string (hi (ab (a.num+b.num))),uV 0,eS])] (lP 0 0 ([.bool (af (a.num+b.num)),uV (lo (ab (a.num+b.num))),.string (hi (ab (a.num+b.num))),uV 0,eS]) e (fun _ e=>ae e [(0,0,5)] (.agg #[.bool (af (a.num+b.num)),uV (lo (ab (a.num+b.num))),.string (hi (ab (a.num+b.num))),uV 0,eS]) (jX (d:=0) (jJ i f).1 (nL (jJ i f).2))))))))))))))))))
theorem Ig (a b:Rat)(ha:LQ (10^8) a)(B:LQ (10^8) b)(L:a.den≠1)(w h)(g:G w h)(X:Tab h):CV 51 #[qv a,qv b] w h (qv (a+b)):=by
 have c:=((sS g).add (K:=fun h_=>Tab h_) X);have y:=ha;have D:=B;obtain ⟨Z,u⟩:=ha;obtain ⟨hb1,p⟩:=B;obtain ⟨q,hq⟩:∃ q,q=N1 a.den b.den:=⟨_,rfl⟩;obtain ⟨up,hup⟩:∃ up,up=a.num*((b.den/q:Nat):Int)+b.num*((a.den/q:Nat):Int):=⟨_,rfl⟩;obtain ⟨r,hr⟩:∃ r,r=N1 (ab up) q:=⟨_,rfl⟩;obtain ⟨e,j,C,hd2,hr0,x⟩:=mh a b q r up hq hup hr;have z:(wds q).length<=(10^8):=av (by rw[hq];exact Oi _ a.den_pos) u;have hrl:(wds r).length<=(10^8):=av (by rw[hr];exact OL _ x) z;have Q:(wds (a.den/q)).length<=(10^8):=av (L2 _ _) u;have M:(wds (b.den/q)).length<=(10^8):=av (L2 _ _) p;have U:(wds (b.den/r)).length<=(10^8):=av (L2 _ _) p;have O:=dR a.num (b.den/q);have S:=dR b.num (a.den/q);have W:(wds (ab up)).length<=999999999:=ep (by rw[hup];exact rr _ _) oM;have V:=@dL (a.den/q) (b.den/r);have Y:LQ (10^9) (a+b):=⟨by rw[e];exact av (cl up r C) oM,by rw[j];omega⟩;have ha:=y;have B:=D;refine go Tryz.func51 [(0,qv a),(1,qv b)] rfl (aA (lA 2 48 (qc a) c (fun b1 w2 h3 c=>lA 3 48 (qc b) c (fun F w5 h6 c=>lA 4 48 a6 c (fun b7 w8 h9 c=>ag (aa c [.o (qv a) 2 0 5] (ar 11 c (gf a aM aM _ _ c.g) (fun _ _ c=>lL c ac (lG 13 ?_)))))))));refine lG 14 (lL c [.v qF] (ah (cK (cQ ?_))));have d:=c;refine cR 8 [⟨7,5,.cells (Oj [uV 0,eS]) 44 (0,0)⟩] mixed c (bR (fS kR (fun _ _=>by kernel_rfl)) ao) (eO 0 22 [(2,0,5)] (qv a) c (eO 3 25 [(1,0,5)] (qv b) c (au 1 23 c (fun _ _ c=>fy a aM _ _ c.g) (fun _ _ c=>au 2 24 c (fun _ _ c=>fi a.den _ _ c.g) (fun _ _ c=>au 4 26 c (fun _ _ c=>fy b aM _ _ c.g) (fun _ _ c=>au 5 27 c (fun _ _ c=>fi b.den _ _ c.g) (fun _ _ c=>au 6 28 c (fun _ _ c=>kN (a.den:Int) (b.den:Int) q (by first|assumption|exact hq) (show (wds a.den).length<=(10^9) by first|assumption|omega) (show (wds b.den).length<=(10^9) by first|assumption|omega) _ _ c.g c.f.1) (fun _ _ c=>jh [] d c 44 [uV 0,eS] (fun _ _ I c=>tP 8 0 0 (nc q) c (fun _ c=>tN (cQ ?_)))))))))));have d:=c;refine Gh 10 [⟨8,6,.cells (Oj [uV 0,eS]) 44 (0,0)⟩,⟨9,7,.cells (Oj [uV 0,eS]) 44 (0,0)⟩] [] mixed c (bR (fS kR (fun _ _=>by kernel_rfl)) (bR (fS kR (fun _ _=>by kernel_rfl)) ao)) (eO 0 29 [(3,0,5)] (qv a) c (eO 2 31 [(0,0,2)] (nv q) c (Dj 4 33 [(2,0,5)] (qv b) d c (Dj 6 35 [(0,0,2)] (nv q) d c (au 1 30 c (fun _ _ c=>fy a aM _ _ c.g) (fun _ _ c=>au 3 32 c (fun _ _ c=>iL a.den q aM de de _ _ c.g) (fun _ _ c=>au 5 34 c (fun _ _ c=>fy b aM _ _ c.g) (fun _ _ c=>au 7 36 c (fun _ _ c=>iL b.den q aM de de _ _ c.g) (fun _ _ c=>I3 d c 44 [uV 0,eS] 44 [uV 0,eS] (fun _ _ za J i l c=>tP 10 0 0 (nc (a.den/q)) c (fun _ c=>?_) (hz:=jB i)))))))))));refine tP 11 1 0 (nc (b.den/q)) c (fun _ c=>?_) (hz:=jB l);refine tN (cQ ?_);have d:=c;refine cR 10 [⟨9,8,.cells (Oj [qF,uV 0,eS]) 46 (0,0)⟩] mixed c (bR (fS kR (fun _ _=>by kernel_rfl)) ao) (eV 0 37 (pB b1) (eO 1 38 [(5,0,3)] (iv a.num) c (eO 2 39 [(1,0,2)] (nv (b.den/q)) c (eV 4 41 (pB F) (eO 5 42 [(4,0,3)] (iv b.num) c (eO 6 43 [(0,0,2)] (nv (a.den/q)) c (au 3 40 c (fun _ _ c=>i4 a.num (b.den/q) de _ _ c.g) (fun _ _ c=>au 7 44 c (fun _ _ c=>i4 b.num (a.den/q) de _ _ c.g) (fun _ _ c=>au 8 45 c (fun _ _ c=>GH (a.num*(((b.den/q):Nat):Int)) (b.num*(((a.den/q):Nat):Int)) up hup oM _ _ c.g) (fun _ _ c=>jh [] d c 46 [qF,uV 0,eS] (fun _ _ zb c=>tP 10 0 0 (ic up) c (fun _ c=>tN (cQ ?_)))))))))))));have d:=c;refine cR 5 [⟨4,9,.cells (Oj [uV 0,eS]) 44 (0,0)⟩] mixed c (bR (fS kR (fun _ _=>by kernel_rfl)) ao) (eO 0 46 [(0,0,3)] (iv up) c (eO 1 47 [(3,0,2)] (nv q) c (au 2 48 c (fun _ _ c=>fi q _ _ c.g) (fun _ _ c=>au 3 49 c (fun _ _ c=>kN up (q:Int) r (by first|assumption|exact hr) de (show (wds q).length<=(10^9) by first|assumption|omega) _ _ c.g c.f.1) (fun _ _ c=>jh [] d c 44 [uV 0,eS] (fun _ _ H c=>tP 5 0 0 (nc r) c (fun _ c=>tN (bH [(3,pB F),(4,pB b7),(6,pB za),(8,pB zb),(9,pB H)] ?_))))))));refine cQ (cR 10 [] mixed c ao ?_);exact eO 0 50 [(1,0,3)] (iv up) c (eO 1 51 [(0,0,2)] (nv r) c (eO 3 53 [(2,0,2)] (nv (a.den/q)) c (eO 4 54 [(6,0,5)] (qv b) c (eO 6 56 [(0,0,2)] (nv r) c (au 2 52 c (fun _ _ c=>nQ up r aM aM de de _ _ c.g) (fun _ _ c=>au 5 55 c (fun _ _ c=>fy b aM _ _ c.g) (fun _ _ c=>au 7 57 c (fun _ _ c=>iL b.den r aM de de _ _ c.g) (fun _ _ c=>au 8 58 c (fun _ _ c=>qU (a.den/q) (b.den/r) de de _ _ c.g) (fun _ _ c=>au 9 59 c (fun _ _ c=>k8 (a+b) (up/(r:Int)) ((a.den/q)*(b.den/r)) (by first|assumption|exact e|exact (e).symm) (by first|assumption|exact j.symm) aM _ _ c.g) (fun _ _ c=>bM c (fun _ _ c=>tP 10 5 0 (qc (a+b)) c (fun _ c=>tN (kX (c.ret [(5,0,5)] (qv (a+b)) rfl))))))))))))))
theorem GU (a b:Rat)(ha:LQ (10^8) a)(C:LQ (10^8) b)(M:a.den=1)(J:b.den≠1)(w h)(g:G w h)(Y:Tab h):CV 51 #[qv a,qv b] w h (qv (a+b)):=by
 have d:=((sS g).add (K:=fun h_=>Tab h_) Y);have z:=ha;have F:=C;obtain ⟨ha1,x⟩:=ha;obtain ⟨hb1,u⟩:=C;obtain ⟨q,hq⟩:∃ q,q=N1 a.den b.den:=⟨_,rfl⟩;obtain ⟨up,hup⟩:∃ up,up=a.num*((b.den/q:Nat):Int)+b.num*((a.den/q:Nat):Int):=⟨_,rfl⟩;obtain ⟨r,hr⟩:∃ r,r=N1 (ab up) q:=⟨_,rfl⟩;obtain ⟨i,p,D,hd2,hr0,y⟩:=mh a b q r up hq hup hr;have B:(wds q).length<=(10^8):=av (by rw[hq];exact Oi _ a.den_pos) x;have hrl:(wds r).length<=(10^8):=av (by rw[hr];exact OL _ y) B;have S:(wds (a.den/q)).length<=(10^8):=av (L2 _ _) x;have O:(wds (b.den/q)).length<=(10^8):=av (L2 _ _) u;have V:(wds (b.den/r)).length<=(10^8):=av (L2 _ _) u;have Q:=dR a.num (b.den/q);have U:=dR b.num (a.den/q);have X:(wds (ab up)).length<=999999999:=ep (by rw[hup];exact rr _ _) oM;have W:=@dL (a.den/q) (b.den/r);have Z:LQ (10^9) (a+b):=⟨by rw[i];exact av (cl up r D) oM,by rw[p];omega⟩;have ha:=z;have C:=F;refine go Tryz.func51 [(0,qv a),(1,qv b)] rfl (aA (lA 2 48 (qc a) d (fun b1 w2 h3 d=>lA 3 48 (qc b) d (fun H w5 h6 d=>lA 4 48 a6 d (fun b7 w8 h9 d=>ag (aa d [.o (qv a) 2 0 5] (ar 11 d (ej a aM aM _ _ d.g) (fun _ _ d=>lL d [.c,.o (qv b) 1 0 5] (ar 14 d (gf b aM aM _ _ d.g) (fun _ _ d=>lL d [.v qF] (ah (cK (cQ ?_)))))))))))));have e:=d;refine cR 8 [⟨7,5,.cells (Oj [uV 0,eS]) 44 (0,0)⟩] mixed d (bR (fS kR (fun _ _=>by kernel_rfl)) ao) (eO 0 22 [(2,0,5)] (qv a) d (eO 3 25 [(1,0,5)] (qv b) d (au 1 23 d (fun _ _ d=>fy a aM _ _ d.g) (fun _ _ d=>au 2 24 d (fun _ _ d=>fi a.den _ _ d.g) (fun _ _ d=>au 4 26 d (fun _ _ d=>fy b aM _ _ d.g) (fun _ _ d=>au 5 27 d (fun _ _ d=>fi b.den _ _ d.g) (fun _ _ d=>au 6 28 d (fun _ _ d=>kN (a.den:Int) (b.den:Int) q (by first|assumption|exact hq) (show (wds a.den).length<=(10^9) by first|assumption|omega) (show (wds b.den).length<=(10^9) by first|assumption|omega) _ _ d.g d.f.1) (fun _ _ d=>jh [] e d 44 [uV 0,eS] (fun _ _ L d=>tP 8 0 0 (nc q) d (fun _ d=>tN (cQ ?_)))))))))));have e:=d;refine Gh 10 [⟨8,6,.cells (Oj [uV 0,eS]) 44 (0,0)⟩,⟨9,7,.cells (Oj [uV 0,eS]) 44 (0,0)⟩] [] mixed d (bR (fS kR (fun _ _=>by kernel_rfl)) (bR (fS kR (fun _ _=>by kernel_rfl)) ao)) (eO 0 29 [(3,0,5)] (qv a) d (eO 2 31 [(0,0,2)] (nv q) d (Dj 4 33 [(2,0,5)] (qv b) e d (Dj 6 35 [(0,0,2)] (nv q) e d (au 1 30 d (fun _ _ d=>fy a aM _ _ d.g) (fun _ _ d=>au 3 32 d (fun _ _ d=>iL a.den q aM de de _ _ d.g) (fun _ _ d=>au 5 34 d (fun _ _ d=>fy b aM _ _ d.g) (fun _ _ d=>au 7 36 d (fun _ _ d=>iL b.den q aM de de _ _ d.g) (fun _ _ d=>I3 e d 44 [uV 0,eS] 44 [uV 0,eS] (fun _ _ za b39 j l d=>tP 10 0 0 (nc (a.den/q)) d (fun _ d=>?_) (hz:=jB j)))))))))));refine tP 11 1 0 (nc (b.den/q)) d (fun _ d=>?_) (hz:=jB l);refine tN (cQ ?_);have e:=d;refine cR 10 [⟨9,8,.cells (Oj [qF,uV 0,eS]) 46 (0,0)⟩] mixed d (bR (fS kR (fun _ _=>by kernel_rfl)) ao) (eV 0 37 (pB b1) (eO 1 38 [(5,0,3)] (iv a.num) d (eO 2 39 [(1,0,2)] (nv (b.den/q)) d (eV 4 41 (pB H) (eO 5 42 [(4,0,3)] (iv b.num) d (eO 6 43 [(0,0,2)] (nv (a.den/q)) d (au 3 40 d (fun _ _ d=>i4 a.num (b.den/q) de _ _ d.g) (fun _ _ d=>au 7 44 d (fun _ _ d=>i4 b.num (a.den/q) de _ _ d.g) (fun _ _ d=>au 8 45 d (fun _ _ d=>GH (a.num*(((b.den/q):Nat):Int)) (b.num*(((a.den/q):Nat):Int)) up hup oM _ _ d.g) (fun _ _ d=>jh [] e d 46 [qF,uV 0,eS] (fun _ _ zb d=>tP 10 0 0 (ic up) d (fun _ d=>tN (cQ ?_)))))))))))));have e:=d;refine cR 5 [⟨4,9,.cells (Oj [uV 0,eS]) 44 (0,0)⟩] mixed d (bR (fS kR (fun _ _=>by kernel_rfl)) ao) (eO 0 46 [(0,0,3)] (iv up) d (eO 1 47 [(3,0,2)] (nv q) d (au 2 48 d (fun _ _ d=>fi q _ _ d.g) (fun _ _ d=>au 3 49 d (fun _ _ d=>kN up (q:Int) r (by first|assumption|exact hr) de (show (wds q).length<=(10^9) by first|assumption|omega) _ _ d.g d.f.1) (fun _ _ d=>jh [] e d 44 [uV 0,eS] (fun _ _ I d=>tP 5 0 0 (nc r) d (fun _ d=>tN (bH [(3,pB H),(4,pB b7),(6,pB za),(8,pB zb),(9,pB I)] ?_))))))));refine cQ (cR 10 [] mixed d ao ?_);exact eO 0 50 [(1,0,3)] (iv up) d (eO 1 51 [(0,0,2)] (nv r) d (eO 3 53 [(2,0,2)] (nv (a.den/q)) d (eO 4 54 [(6,0,5)] (qv b) d (eO 6 56 [(0,0,2)] (nv r) d (au 2 52 d (fun _ _ d=>nQ up r aM aM de de _ _ d.g) (fun _ _ d=>au 5 55 d (fun _ _ d=>fy b aM _ _ d.g) (fun _ _ d=>au 7 57 d (fun _ _ d=>iL b.den r aM de de _ _ d.g) (fun _ _ d=>au 8 58 d (fun _ _ d=>qU (a.den/q) (b.den/r) de de _ _ d.g) (fun _ _ d=>au 9 59 d (fun _ _ d=>k8 (a+b) (up/(r:Int)) ((a.den/q)*(b.den/r)) (by first|assumption|exact i|exact (i).symm) (by first|assumption|exact p.symm) aM _ _ d.g) (fun _ _ d=>bM d (fun _ _ d=>tP 10 5 0 (qc (a+b)) d (fun _ d=>tN (kX (d.ret [(5,0,5)] (qv (a+b)) rfl))))))))))))))
theorem CZ (a b:Rat)(ha:LQ (10^8) a)(c:LQ (10^8) b)(w h)(g:G w h)(d:Tab h):CV 51 #[qv a,qv b] w h (qv (a+b)):=by
 by_cases h1:a.den=1
 ·by_cases h2:b.den=1
  ·exact H5 a b ha c h1 h2 w h g d
  ·exact GU a b ha c h1 h2 w h g d
 ·exact Ig a b ha c h1 w h g d
theorem GY (a b:Rat)(ha:LQ (10^8) a)(u:LQ (10^8) b)(i:a.den=1)(f:b.den=1)(w h)(g:G w h)(y:Tab h):CV 26 #[qv a,qv b] w h (qv (a*b)):=by
 have e:=((sS g).add (K:=fun C=>Tab C) y);have j:=ha;have l:=u;obtain ⟨z,D⟩:=j;obtain ⟨F,x⟩:=l;exact go Tryz.func26 [(0,qv a),(1,qv b)] rfl (aA (lA 2 48 (qc a) e (fun B w2 J e=>lA 3 48 (qc b) e (fun p L I e=>lA 4 48 a6 e (fun M O H e=>ag (aa e [.o (qv a) 2 0 5] (ar 8 e (ej a aM aM _ _ e.g) (fun _ _ e=>lL e [.c,.o (qv b) 1 0 5] (ar 11 e (ej b aM aM _ _ e.g) (fun _ _ e=>lL e [.v qT] (ak (aa e [.v (pB B),.o (iv a.num) 2 0 3,.v (pB p),.o (iv b.num) 1 0 3] (ar 17 e (Ef a.num b.num de _ _ e.g) (fun _ _ e=>lL e [.v (.agg #[.bool (af (a.num*b.num)),uV (lo (ab (a.num*b.num))),.string (hi (ab (a.num*b.num))),uV 0,eS])] (lP 0 0 ([.bool (af (a.num*b.num)),uV (lo (ab (a.num*b.num))),.string (hi (ab (a.num*b.num))),uV 0,eS]) e (fun _ e=>ae e [(0,0,5)] (.agg #[.bool (af (a.num*b.num)),uV (lo (ab (a.num*b.num))),.string (hi (ab (a.num*b.num))),uV 0,eS]) (jX (d:=0) (jP i f).1 (nL (jP i f).2))))))))))))))))))
theorem Hv (a b:Rat)(ha:LQ (10^8) a)(u:LQ (10^8) b)(I:a.den≠1)(w h)(g:G w h)(U:Tab h):CV 26 #[qv a,qv b] w h (qv (a*b)):=by
 have c:=((sS g).add (K:=fun h_=>Tab h_) U);have p:=ha;have B:=u;obtain ⟨x,l⟩:=ha;obtain ⟨C,j⟩:=u;obtain ⟨q,hq⟩:∃ q,q=N1 (ab a.num) b.den:=⟨_,rfl⟩;obtain ⟨r,hr⟩:∃ r,r=N1 (ab b.num) a.den:=⟨_,rfl⟩;obtain ⟨d,i,y,z,H,W⟩:=l8 a b q r hq hr;have O:(wds q).length<=(10^8):=av (by rw[hq];exact OL _ b.den_pos) j;have Z:(wds r).length<=(10^8):=av (by rw[hr];exact OL _ a.den_pos) l;have L:(wds (ab (a.num/(q:Int)))).length<=(10^8):=av (cl _ _ y) x;have Q:(wds (ab (b.num/(r:Int)))).length<=(10^8):=av (cl _ _ z) C;have har:(wds (a.den/r)).length<=(10^8):=av (L2 _ _) l;have J:(wds (b.den/q)).length<=(10^8):=av (L2 _ _) j;have S:=@dL (a.den/r) (b.den/q);have hnl:=js (a.num/(q:Int)) (b.num/(r:Int));have V:LQ (10^9) (a*b):=⟨by rw[d];omega,by rw[i];omega⟩;have ha:=p;have u:=B;refine go Tryz.func26 [(0,qv a),(1,qv b)] rfl (aA (lA 2 48 (qc a) c (fun F w2 h3 c=>lA 3 48 (qc b) c (fun D w5 h6 c=>lA 4 48 a6 c (fun X w8 h9 c=>ag (aa c [.o (qv a) 2 0 5] (ar 8 c (gf a aM aM _ _ c.g) (fun _ _ c=>lL c ac (lG 10 ?_)))))))));refine lG 11 (lL c [.v qF] (ah (cK (cQ ?_))));have e:=c;refine cR 7 [⟨6,5,.cells (Oj [uV 0,eS]) 44 (0,0)⟩] mixed c (bR (fS kR (fun _ _=>by kernel_rfl)) ao) (eV 0 19 (pB F) (eO 1 20 [(2,0,3)] (iv a.num) c (eO 2 21 [(1,0,5)] (qv b) c (au 3 22 c (fun _ _ c=>fy b aM _ _ c.g) (fun _ _ c=>au 4 23 c (fun _ _ c=>fi b.den _ _ c.g) (fun _ _ c=>au 5 24 c (fun _ _ c=>kN a.num (b.den:Int) q (by first|assumption|exact hq) de (show (wds b.den).length<=(10^9) by first|assumption|omega) _ _ c.g c.f.1) (fun _ _ c=>jh [] e c 44 [uV 0,eS] (fun _ _ Y c=>tP 7 0 0 (nc q) c (fun _ c=>tN (cQ ?_))))))))));have e:=c;refine cR 7 [⟨6,6,.cells (Oj [uV 0,eS]) 44 (0,0)⟩] mixed c (bR (fS kR (fun _ _=>by kernel_rfl)) ao) (eV 0 25 (pB D) (eO 1 26 [(2,0,3)] (iv b.num) c (eO 2 27 [(3,0,5)] (qv a) c (au 3 28 c (fun _ _ c=>fy a aM _ _ c.g) (fun _ _ c=>au 4 29 c (fun _ _ c=>fi a.den _ _ c.g) (fun _ _ c=>au 5 30 c (fun _ _ c=>kN b.num (a.den:Int) r (by first|assumption|exact hr) de (show (wds a.den).length<=(10^9) by first|assumption|omega) _ _ c.g c.f.1) (fun _ _ c=>jh [] e c 44 [uV 0,eS] (fun _ _ M c=>tP 7 0 0 (nc r) c (fun _ c=>tN (cQ (cR 19 [] mixed c ao ?_)))))))))));refine eV 0 31 (pB F) (eO 1 32 [(4,0,3)] (iv a.num) c (eO 2 33 [(1,0,2)] (nv q) c (eV 4 35 (pB D) (eO 5 36 [(3,0,3)] (iv b.num) c (eO 6 37 [(0,0,2)] (nv r) c (eO 9 40 [(4,0,5)] (qv a) c (eO 11 42 [(0,0,2)] (nv r) c (eO 13 44 [(3,0,5)] (qv b) c (eO 15 46 [(1,0,2)] (nv q) c (au 3 34 c (fun _ _ c=>nQ a.num q aM aM de de _ _ c.g) (fun _ _ c=>au 7 38 c (fun _ _ c=>nQ b.num r aM aM de de _ _ c.g) (fun _ _ c=>au 8 39 c (fun _ _ c=>Ef (a.num/(q:Int)) (b.num/(r:Int)) de _ _ c.g) (fun _ _ c=>au 10 41 c (fun _ _ c=>fy a aM _ _ c.g) (fun _ _ c=>au 12 43 c (fun _ _ c=>iL a.den r aM de de _ _ c.g) (fun _ _ c=>au 14 45 c (fun _ _ c=>fy b aM _ _ c.g) (fun _ _ c=>au 16 47 c (fun _ _ c=>iL b.den q aM de de _ _ c.g) (fun _ _ c=>au 17 48 c (fun _ _ c=>qU (a.den/r) (b.den/q) de de _ _ c.g) (fun _ _ c=>au 18 49 c (fun _ _ c=>k8 (a*b) ((a.num/(q:Int))*(b.num/(r:Int))) ((a.den/r)*(b.den/q)) (by first|assumption|exact d|exact (d).symm) (by first|assumption|exact i.symm) aM _ _ c.g) (fun _ _ c=>bM c (fun _ _ c=>tP 19 2 0 (qc (a*b)) c (fun _ c=>tN (bH [(4,pB X)] ?_))))))))))))))))))))));exact kX (c.ret [(2,0,5)] (qv (a*b)) rfl)
theorem IY (a b:Rat)(ha:LQ (10^8) a)(x:LQ (10^8) b)(M:a.den=1)(J:b.den≠1)(w h)(g:G w h)(X:Tab h):CV 26 #[qv a,qv b] w h (qv (a*b)):=by
 have d:=((sS g).add (K:=fun h_=>Tab h_) X);have u:=ha;have C:=x;obtain ⟨y,p⟩:=ha;obtain ⟨D,l⟩:=x;obtain ⟨q,hq⟩:∃ q,q=N1 (ab a.num) b.den:=⟨_,rfl⟩;obtain ⟨r,hr⟩:∃ r,r=N1 (ab b.num) a.den:=⟨_,rfl⟩;obtain ⟨e,j,z,B,L,Z⟩:=l8 a b q r hq hr;have S:(wds q).length<=(10^8):=av (by rw[hq];exact OL _ b.den_pos) l;have hrl:(wds r).length<=(10^8):=av (by rw[hr];exact OL _ a.den_pos) p;have Q:(wds (ab (a.num/(q:Int)))).length<=(10^8):=av (cl _ _ z) y;have V:(wds (ab (b.num/(r:Int)))).length<=(10^8):=av (cl _ _ B) D;have har:(wds (a.den/r)).length<=(10^8):=av (L2 _ _) p;have O:(wds (b.den/q)).length<=(10^8):=av (L2 _ _) l;have W:=@dL (a.den/r) (b.den/q);have hnl:=js (a.num/(q:Int)) (b.num/(r:Int));have Y:LQ (10^9) (a*b):=⟨by rw[e];omega,by rw[j];omega⟩;have ha:=u;have x:=C;refine go Tryz.func26 [(0,qv a),(1,qv b)] rfl (aA (lA 2 48 (qc a) d (fun H w2 h3 d=>lA 3 48 (qc b) d (fun F w5 h6 d=>lA 4 48 a6 d (fun b7 w8 h9 d=>ag (aa d [.o (qv a) 2 0 5] (ar 8 d (ej a aM aM _ _ d.g) (fun _ _ d=>lL d [.c,.o (qv b) 1 0 5] (ar 11 d (gf b aM aM _ _ d.g) (fun _ _ d=>lL d [.v qF] (ah (cK (cQ ?_)))))))))))));have i:=d;refine cR 7 [⟨6,5,.cells (Oj [uV 0,eS]) 44 (0,0)⟩] mixed d (bR (fS kR (fun _ _=>by kernel_rfl)) ao) (eV 0 19 (pB H) (eO 1 20 [(2,0,3)] (iv a.num) d (eO 2 21 [(1,0,5)] (qv b) d (au 3 22 d (fun _ _ d=>fy b aM _ _ d.g) (fun _ _ d=>au 4 23 d (fun _ _ d=>fi b.den _ _ d.g) (fun _ _ d=>au 5 24 d (fun _ _ d=>kN a.num (b.den:Int) q (by first|assumption|exact hq) de (show (wds b.den).length<=(10^9) by first|assumption|omega) _ _ d.g d.f.1) (fun _ _ d=>jh [] i d 44 [uV 0,eS] (fun _ _ U d=>tP 7 0 0 (nc q) d (fun _ d=>tN (cQ ?_))))))))));have i:=d;refine cR 7 [⟨6,6,.cells (Oj [uV 0,eS]) 44 (0,0)⟩] mixed d (bR (fS kR (fun _ _=>by kernel_rfl)) ao) (eV 0 25 (pB F) (eO 1 26 [(2,0,3)] (iv b.num) d (eO 2 27 [(3,0,5)] (qv a) d (au 3 28 d (fun _ _ d=>fy a aM _ _ d.g) (fun _ _ d=>au 4 29 d (fun _ _ d=>fi a.den _ _ d.g) (fun _ _ d=>au 5 30 d (fun _ _ d=>kN b.num (a.den:Int) r (by first|assumption|exact hr) de (show (wds a.den).length<=(10^9) by first|assumption|omega) _ _ d.g d.f.1) (fun _ _ d=>jh [] i d 44 [uV 0,eS] (fun _ _ I d=>tP 7 0 0 (nc r) d (fun _ d=>tN (cQ (cR 19 [] mixed d ao ?_)))))))))));refine eV 0 31 (pB H) (eO 1 32 [(4,0,3)] (iv a.num) d (eO 2 33 [(1,0,2)] (nv q) d (eV 4 35 (pB F) (eO 5 36 [(3,0,3)] (iv b.num) d (eO 6 37 [(0,0,2)] (nv r) d (eO 9 40 [(4,0,5)] (qv a) d (eO 11 42 [(0,0,2)] (nv r) d (eO 13 44 [(3,0,5)] (qv b) d (eO 15 46 [(1,0,2)] (nv q) d (au 3 34 d (fun _ _ d=>nQ a.num q aM aM de de _ _ d.g) (fun _ _ d=>au 7 38 d (fun _ _ d=>nQ b.num r aM aM de de _ _ d.g) (fun _ _ d=>au 8 39 d (fun _ _ d=>Ef (a.num/(q:Int)) (b.num/(r:Int)) de _ _ d.g) (fun _ _ d=>au 10 41 d (fun _ _ d=>fy a aM _ _ d.g) (fun _ _ d=>au 12 43 d (fun _ _ d=>iL a.den r aM de de _ _ d.g) (fun _ _ d=>au 14 45 d (fun _ _ d=>fy b aM _ _ d.g) (fun _ _ d=>au 16 47 d (fun _ _ d=>iL b.den q aM de de _ _ d.g) (fun _ _ d=>au 17 48 d (fun _ _ d=>qU (a.den/r) (b.den/q) de de _ _ d.g) (fun _ _ d=>au 18 49 d (fun _ _ d=>k8 (a*b) ((a.num/(q:Int))*(b.num/(r:Int))) ((a.den/r)*(b.den/q)) (by first|assumption|exact e|exact (e).symm) (by first|assumption|exact j.symm) aM _ _ d.g) (fun _ _ d=>bM d (fun _ _ d=>tP 19 2 0 (qc (a*b)) d (fun _ d=>tN (bH [(4,pB b7)] ?_))))))))))))))))))))));exact kX (d.ret [(2,0,5)] (qv (a*b)) rfl)
theorem qH (a b:Rat)(ha:LQ (10^8) a)(c:LQ (10^8) b)(w h)(g:G w h)(d:Tab h):CV 26 #[qv a,qv b] w h (qv (a*b)):=by
 by_cases h1:a.den=1
 ·by_cases h2:b.den=1
  ·exact GY a b ha c h1 h2 w h g d
  ·exact IY a b ha c h1 h2 w h g d
 ·exact Hv a b ha c h1 w h g d
theorem LQ.neg {k:Nat}{a:Rat}(h:LQ k a):LQ k (-a):=⟨by rw[OJ];unfold ab;rw[ON];exact h.1,by rw[OK];exact h.2⟩
theorem KU (a b:Rat)(ha:LQ (10^8) a)(e:LQ (10^8) b)(w h)(g:G w h)(i:Tab h):CV 25 #[qv a,qv b] w h (qv (a-b)):=by
 have c:=((sS g).add (K:=fun j=>Tab j) i);have d:=e.neg;refine go Tryz.func25 [(0,qv a),(1,qv b)] rfl (aA (lA 2 48 (qc a) c (fun z w2 u c=>lA 3 48 (qc b) c (fun l x p c=>lA 4 48 a6 c (fun y B o c=>ag (cR 4 [] mixed c ao ?_))))));exact eO 0 5 [(2,0,5)] (qv a) c (eO 1 6 [(1,0,5)] (qv b) c (au 2 7 c (fun _ _ c=>KL b aM _ _ c.g) (fun _ _ c=>au 3 8 c (fun _ _ c=>CZ a (-b) aM aM _ _ c.g c.f.1) (fun _ _ c=>bM c (fun _ _ c=>tP 4 0 0 (qc (a+(-b))) c (fun _ c=>tN (kX (c.ret [(0,0,5)] (qv (a+(-b))) (by rw[OO])))))))))
theorem LQ.add {k l:Nat}{a b:Rat}(ha:LQ k a)(x:LQ l b):LQ (k+l+1) (a+b):=by
 obtain ⟨B,h⟩:=ha;obtain ⟨F,c⟩:=x;obtain ⟨q,hq⟩:∃ q,q=N1 a.den b.den:=⟨_,rfl⟩;obtain ⟨up,hup⟩:∃ up,up=a.num*((b.den/q:Nat):Int)+b.num*((a.den/q:Nat):Int):=⟨_,rfl⟩;obtain ⟨r,hr⟩:∃ r,r=N1 (ab up) q:=⟨_,rfl⟩;obtain ⟨d,e,f,C,D,i⟩:=mh a b q r up hq hup hr;have p:=av (L2 a.den q) h;have j:=av (L2 b.den q) c;have y:=av (L2 b.den r) c;have o:=dR a.num (b.den/q);have u:=dR b.num (a.den/q);have z:=@dL (a.den/q) (b.den/r);refine ⟨?_,by rw[e];omega⟩;rw[d];refine av (cl up r f) ?_;rw[hup];exact ep (dr (show ab _<=ab _+ab _ from OM _ _)) (rC oM oM)
theorem LQ.mul {k l:Nat}{a b:Rat}(ha:LQ k a)(u:LQ l b):LQ (k+l) (a*b):=by
 obtain ⟨d,i⟩:=ha;obtain ⟨j,o⟩:=u;obtain ⟨f,c,e,h,x,y⟩:=l8 a b _ _ rfl rfl;refine ⟨?_,?_⟩
 ·rw[f]
  have h1:=av (cl _ _ e) d;have p:=av (cl _ _ h) j;exact ep (js _ _) oM
 ·rw[c]
  have h1:=av (L2 a.den (N1 (ab b.num) a.den)) i;have p:=av (L2 b.den (N1 (ab a.num) b.den)) o;exact ep dL oM
theorem LQ.mono {k l:Nat}{a:Rat}(h:LQ k a)(c:k<=l):LQ l a:=⟨ep h.1 c,ep h.2 c⟩
def dC (a b:Rat):Int:=eZ (a.num*b.den) (b.num*a.den)
theorem gu {a b:Rat}(h1:a.den=1)(c:b.den=1):eZ a.num b.num=dC a b:=by unfold dC;rw[h1,c];simp
theorem g9 {a b:Rat}(h:(a.num.sign != b.num.sign)=true):eZ a.num b.num=dC a b:=by
 have h:a.num.sign≠b.num.sign:=by simpa using h
 have ha:=a.den_pos;have e:=b.den_pos;unfold dC eZ;rcases Oq a.num 0 with p|p|p<;>rcases Oq b.num 0 with q|q|q
 ·exact absurd (by rw[Ot p,Ot q]) h
 ·have:a.num*(b.den:Int)<0:=OP p oM
  rw[q];simp;rw[if_pos p,if_pos this]
 ·have d:a.num*(b.den:Int)<0:=OP p oM
  have c:0<b.num*(a.den:Int):=OQ q oM;rw[if_pos oM,if_pos oM]
 ·have:b.num*(a.den:Int)<0:=OP q oM
  rw[p];simp;rw[if_neg oM,if_pos q,if_neg oM,if_pos this]
 ·exact absurd (by rw[p,q]) h
 ·have:0<b.num*(a.den:Int):=OQ q oM
  rw[p];simp;rw[if_pos q,if_pos this]
 ·have d:0<a.num*(b.den:Int):=OQ p oM
  have c:b.num*(a.den:Int)<0:=OP q oM;rw[if_neg oM,if_pos oM,if_neg oM,if_pos oM]
 ·have:0<a.num*(b.den:Int):=OQ p oM
  rw[q];simp;rw[if_neg oM,if_pos p,if_neg oM,if_pos this]
 ·exact absurd (by rw[Ou p,Ou q]) h
theorem H9 (a b)(ha:LQ (10^8) a)(u:LQ (10^8) b)(e:a.den=1)(d:b.den=1)(w h)(g:G w h):CV 146 #[qv a,qv b] w h (iV (dC a b)):=by
 have c:=sS g;have f:=ha;have i:=u;obtain ⟨y,B⟩:=f;obtain ⟨C,x⟩:=i;have l:=dR a.num b.den;have p:=dR b.num a.den;refine go Tryz.func146 [(0,qv a),(1,qv b)] rfl (aA (lA 2 48 (qc a) c (fun z w2 J c=>lA 3 48 (qc b) c (fun j K I c=>lL c ac (ag (cQ (cR 13 [] mixed c ao ?_)))))));exact eO 0 5 [(1,0,5)] (qv a) c (au 1 6 c (fun _ _ c=>ej a aM aM _ _ c.g) (fun H F c=>eV 2 7 qT (eO 3 8 [(0,0,5)] (qv b) c (au 4 9 c (fun _ _ c=>ej b aM aM _ _ c.g) (fun D _ c=>eV 5 10 qT (eV 6 11 qT (eG 7 12 (eG 8 13 (eG 9 14 (eG 10 15 (eG 11 16 (eV 12 17 qT (bM c (fun _ _ c=>tN (ck (aa c [.v (pB z),.o (iv a.num) 1 0 3,.v (pB j),.o (iv b.num) 0 0 3] (ar 22 c (AP a.num b.num de de _ _ c.g) (fun _ _ c=>lL c ac (ae c [] (iV (eZ a.num b.num)) (congrArg (Value.int .i64) (by first|rfl|exact gu e d|exact g9 ‹_›)))))))))))))))))))))
theorem GT (a b)(ha:LQ (10^8) a)(x:LQ (10^8) b)(d:a.den≠1)(w h)(g:G w h):CV 146 #[qv a,qv b] w h (iV (dC a b)):=by
 have c:=sS g;have f:=ha;have i:=x;obtain ⟨z,C⟩:=f;obtain ⟨D,y⟩:=i;have p:=dR a.num b.den;have u:=dR b.num a.den;refine go Tryz.func146 [(0,qv a),(1,qv b)] rfl (aA (lA 2 48 (qc a) c (fun l w2 K c=>lA 3 48 (qc b) c (fun j L J c=>lL c ac (ag (cQ (cR 13 [] mixed c ao ?_)))))));refine eO 0 5 [(1,0,5)] (qv a) c (au 1 6 c (fun _ _ c=>gf a aM aM _ _ c.g) (fun I H c=>eV 2 7 qF (eG 3 8 (eG 4 9 (eV 5 10 qF (eV 6 11 qF (eO 7 12 [(1,0,5)] (qv a) c (eO 9 14 [(0,0,5)] (qv b) c (au 8 13 c (fun _ _ c=>j8 a aM _ _ c.g) (fun F _ c=>au 10 15 c (fun _ _ c=>j8 b aM _ _ c.g) (fun _ _ c=>?_)))))))))));cases e:(((a.num).sign:Int) != ((b.num).sign:Int))
 .
  have B:=aU e;refine eB 11 16 e (eV 12 17 qF (bM c (fun _ _ c=>tN (dE (cK (cQ (cR 11 [] mixed c ao ?_)))))));exact eV 0 23 (pB l) (eO 1 24 [(1,0,3)] (iv a.num) c (eO 2 25 [(0,0,5)] (qv b) c (eV 5 28 (pB j) (eO 6 29 [(0,0,3)] (iv b.num) c (eO 7 30 [(1,0,5)] (qv a) c (au 3 26 c (fun _ _ c=>fy b aM _ _ c.g) (fun _ _ c=>au 4 27 c (fun _ _ c=>i4 a.num b.den de _ _ c.g) (fun _ _ c=>au 8 31 c (fun _ _ c=>fy a aM _ _ c.g) (fun _ _ c=>au 9 32 c (fun _ _ c=>i4 b.num a.den de _ _ c.g) (fun _ _ c=>au 10 33 c (fun _ _ c=>AP (a.num*(b.den:Int)) (b.num*(a.den:Int)) de de _ _ c.g) (fun _ _ c=>bM c (fun _ _ c=>tV 11 4 (iV (eZ (a.num*(b.den:Int)) (b.num*(a.den:Int)))) (tN (kX (c.ret [] (iV (eZ (a.num*(b.den:Int)) (b.num*(a.den:Int)))) (congrArg (Value.int .i64) (by first|rfl|exact gu d hwb|exact g9 ‹_›)))))))))))))))))
 have B:=aJ e;exact eB 11 16 e (eV 12 17 qT (bM c (fun _ _ c=>tN (ck (aa c [.v (pB l),.o (iv a.num) 1 0 3,.v (pB j),.o (iv b.num) 0 0 3] (ar 22 c (AP a.num b.num de de _ _ c.g) (fun _ _ c=>lL c ac (ae c [] (iV (eZ a.num b.num)) (congrArg (Value.int .i64) (by first|rfl|exact gu d hwb|exact g9 ‹_›))))))))))
theorem II (a b)(ha:LQ (10^8) a)(y:LQ (10^8) b)(e:a.den=1)(d:b.den≠1)(w h)(g:G w h):CV 146 #[qv a,qv b] w h (iV (dC a b)):=by
 have c:=sS g;have i:=ha;have j:=y;obtain ⟨B,D⟩:=i;obtain ⟨F,z⟩:=j;have u:=dR a.num b.den;have x:=dR b.num a.den;refine go Tryz.func146 [(0,qv a),(1,qv b)] rfl (aA (lA 2 48 (qc a) c (fun p w2 L c=>lA 3 48 (qc b) c (fun l M K c=>lL c ac (ag (cQ (cR 13 [] mixed c ao ?_)))))));refine eO 0 5 [(1,0,5)] (qv a) c (au 1 6 c (fun _ _ c=>ej a aM aM _ _ c.g) (fun J I c=>eV 2 7 qT (eO 3 8 [(0,0,5)] (qv b) c (au 4 9 c (fun _ _ c=>gf b aM aM _ _ c.g) (fun H _ c=>eV 5 10 qF (eV 6 11 qF (eO 7 12 [(1,0,5)] (qv a) c (eO 9 14 [(0,0,5)] (qv b) c (au 8 13 c (fun _ _ c=>j8 a aM _ _ c.g) (fun _ _ c=>au 10 15 c (fun _ _ c=>j8 b aM _ _ c.g) (fun _ _ c=>?_)))))))))));cases f:(((a.num).sign:Int) != ((b.num).sign:Int))
 .
  have C:=aU f;refine eB 11 16 f (eV 12 17 qF (bM c (fun _ _ c=>tN (dE (cK (cQ (cR 11 [] mixed c ao ?_)))))));exact eV 0 23 (pB p) (eO 1 24 [(1,0,3)] (iv a.num) c (eO 2 25 [(0,0,5)] (qv b) c (eV 5 28 (pB l) (eO 6 29 [(0,0,3)] (iv b.num) c (eO 7 30 [(1,0,5)] (qv a) c (au 3 26 c (fun _ _ c=>fy b aM _ _ c.g) (fun _ _ c=>au 4 27 c (fun _ _ c=>i4 a.num b.den de _ _ c.g) (fun _ _ c=>au 8 31 c (fun _ _ c=>fy a aM _ _ c.g) (fun _ _ c=>au 9 32 c (fun _ _ c=>i4 b.num a.den de _ _ c.g) (fun _ _ c=>au 10 33 c (fun _ _ c=>AP (a.num*(b.den:Int)) (b.num*(a.den:Int)) de de _ _ c.g) (fun _ _ c=>bM c (fun _ _ c=>tV 11 4 (iV (eZ (a.num*(b.den:Int)) (b.num*(a.den:Int)))) (tN (kX (c.ret [] (iV (eZ (a.num*(b.den:Int)) (b.num*(a.den:Int)))) (congrArg (Value.int .i64) (by first|rfl|exact gu e d|exact g9 ‹_›)))))))))))))))))
 have C:=aJ f;exact eB 11 16 f (eV 12 17 qT (bM c (fun _ _ c=>tN (ck (aa c [.v (pB p),.o (iv a.num) 1 0 3,.v (pB l),.o (iv b.num) 0 0 3] (ar 22 c (AP a.num b.num de de _ _ c.g) (fun _ _ c=>lL c ac (ae c [] (iV (eZ a.num b.num)) (congrArg (Value.int .i64) (by first|rfl|exact gu e d|exact g9 ‹_›))))))))))
theorem Lp (a b)(ha:LQ (10^8) a)(c:LQ (10^8) b)(w h)(g:G w h):CV 146 #[qv a,qv b] w h (iV (dC a b)):=by
 by_cases h1:a.den=1
 ·by_cases h2:b.den=1
  ·exact H9 a b ha c h1 h2 w h g
  ·exact II a b ha c h1 h2 w h g
 ·exact GT a b ha c h1 w h g
theorem jn {a b:Rat}:dC a b<0↔a<b:=by
 unfold dC eZ;rw[Rat.lt_iff];split
 ·simp;assumption
 ·split<;>simp<;>omega
theorem jr {a b:Rat}:dC a b>0↔b<a:=by
 unfold dC eZ;rw[Rat.lt_iff];split
 ·simp;omega
 ·split<;>simp<;>omega
def mkR (n d:Int):Rat:=mkRat (if d<0 then -n else n) (ab d)
theorem I0 (n d:Int)(l:d<0)(e:(wds (ab n)).length<=(10^9))(z:(wds (ab d)).length<=(10^9))(w h)(g:G w h)(y:Tab h):CV 62 #[iv n,iv d] w h (.tuple #[qv (mkR n d),.bool true]):=by
 have a:=((sS g).add (K:=fun D=>Tab D) y);have u:=Ot l;have x:0<ab d:=by unfold ab;omega
 have C:(wds (ab (-n))).length<=(10^9):=by unfold ab;rw[ON];exact e
 refine go Tryz.func62 [(0,iv n),(1,iv d)] rfl (aA (lA 2 46 (ic n) a (fun O w2 J a=>lA 3 46 (ic d) a (fun F L I a=>lA 4 48 a6 a (fun M Q H a=>lL a ac (ag (aa a [.o (iv d) 1 0 3] (ar 7 a (ne d de _ _ a.g) (fun _ _ a=>?_)))))))));have j:(((d).sign:Int) == (0:Int))=false:=fB oM;have c:=aj j;refine lB 8 j (ah (cK (cQ (aa a [.o (iv d) 1 0 3] (ar 11 a (ne d de _ _ a.g) (fun _ _ a=>?_))))));have ⟨B,i⟩:=dT (p:=((d).sign:Int)<(0:Int)) oM;refine lB 12 B (ak (kQ (lL a [.o (iv n) 2 0 3] (ar 14 a (KS n de _ _ a.g) (fun _ _ a=>lP 2 0 (ic (-n)) a (fun _ a=>ag (cR 4 [] mixed a ao ?_)))))));exact eO 0 15 [(2,0,3)] (iv (-n)) a (eO 1 16 [(1,0,3)] (iv d) a (au 2 17 a (fun _ _ a=>Dc d _ _ a.g) (fun _ _ a=>au 3 18 a (fun _ _ a=>vP (-n) (ab d) de de de _ _ a.g a.f.1) (fun _ _ a=>bM a (fun _ _ a=>tP 4 0 0 (qc (mkRat (-n) (ab d))) a (fun _ a=>tV 5 5 qT (tN (kX (a.ret [(0,0,5)] (.tuple #[qv (mkRat (-n) (ab d)),qT]) (by unfold mkR;rw[if_pos l]))))))))))
theorem HY (n d:Int)(y:0<d)(u:(wds (ab n)).length<=(10^9))(z:(wds (ab d)).length<=(10^9))(w h)(g:G w h)(x:Tab h):CV 62 #[iv n,iv d] w h (.tuple #[qv (mkR n d),.bool true]):=by
 have a:=((sS g).add (K:=fun C=>Tab C) x);have j:=Ou y;have l:0<ab d:=by unfold ab;omega
 refine go Tryz.func62 [(0,iv n),(1,iv d)] rfl (aA (lA 2 46 (ic n) a (fun M w2 I a=>lA 3 46 (ic d) a (fun D J H a=>lA 4 48 a6 a (fun L O F a=>lL a ac (ag (aa a [.o (iv d) 1 0 3] (ar 7 a (ne d de _ _ a.g) (fun _ _ a=>?_)))))))));have i:(((d).sign:Int) == (0:Int))=false:=fB oM;have c:=aj i;refine lB 8 i (ah (cK (cQ (aa a [.o (iv d) 1 0 3] (ar 11 a (ne d de _ _ a.g) (fun _ _ a=>?_))))));have ⟨B,e⟩:=dF (p:=((d).sign:Int)<(0:Int)) oM;refine lB 12 B (ah (cK (cQ (cR 4 [] mixed a ao ?_))));exact eO 0 15 [(2,0,3)] (iv n) a (eO 1 16 [(1,0,3)] (iv d) a (au 2 17 a (fun _ _ a=>Dc d _ _ a.g) (fun _ _ a=>au 3 18 a (fun _ _ a=>vP n (ab d) de de de _ _ a.g a.f.1) (fun _ _ a=>bM a (fun _ _ a=>tP 4 0 0 (qc (mkRat n (ab d))) a (fun _ a=>tV 5 5 qT (tN (kX (a.ret [(0,0,5)] (.tuple #[qv (mkRat n (ab d)),qT]) (by unfold mkR;rw[if_neg oM]))))))))))
theorem Ji (n d:Int)(f:d≠0)(c:(wds (ab n)).length<=(10^9))(a:(wds (ab d)).length<=(10^9))(w h)(g:G w h)(e:Tab h):CV 62 #[iv n,iv d] w h (.tuple #[qv (mkR n d),.bool true]):=by
 rcases Oq d 0 with h1|h1|h1
 ·exact I0 n d h1 c a w h g e
 ·exact absurd h1 f
 ·exact HY n d h1 c a w h g e
theorem JE (a b:Rat)(ha:LQ (10^8) a)(D:LQ (10^8) b)(hz:b.num≠0)(w h)(g:G w h)(F:Tab h):CV 303 #[qv a,qv b] w h (.tuple #[qv (a/b),.bool true]):=by
 have c:=((sS g).add (K:=fun I=>Tab I) F);have j:=ha;have x:=D;obtain ⟨H,J⟩:=j;obtain ⟨y,u⟩:=x;have z:((b.num).sign == (0:Int))=false:=by simpa using hz
 obtain ⟨d,i⟩:=uK b hz;have l:(wds (ab (bD (decide ((b.num).sign<(0:Int))) b.den))).length<=(10^8):=by rw[fH];exact u
 have p:LQ (10^8) b⁻¹:=⟨by rw[d];exact l,by rw[i];exact y⟩;have B:LQ (10^9) b⁻¹:=p.mono oM;refine go Tryz.func303 [(0,qv a),(1,qv b)] rfl (aA (lA 2 48 (qc a) c (fun U w2 O c=>lA 3 48 (qc b) c (fun C Q M c=>lA 4 48 a6 c (fun S V L c=>lL c ac (ag (aa c [.o (qv b) 1 0 5] (ar 7 c (j8 b aM _ _ c.g) (fun _ _ c=>lV 8 qF ?_ (hr:=rb (e:=((b.num).sign == (0:Int))) kR z))))))))));refine ah (cK (cQ (cR 12 [] mixed c ao ?_)));exact eO 0 10 [(2,0,5)] (qv a) c (eO 1 11 [(1,0,5)] (qv b) c (eO 4 14 [(1,0,5)] (qv b) c (eV 7 17 (pB C) (eO 8 18 [(1,0,3)] (iv b.num) c (au 2 12 c (fun _ _ c=>j8 b aM _ _ c.g) (fun _ _ c=>eV 3 13 (.bool (decide (((b.num).sign:Int)<(0:Int)))) (au 5 15 c (fun _ _ c=>fy b aM _ _ c.g) (fun _ _ c=>au 6 16 c (fun _ _ c=>gE (decide (((b.num).sign:Int)<(0:Int))) b.den de _ _ c.g) (fun _ _ c=>au 9 19 c (fun _ _ c=>Dc b.num _ _ c.g) (fun _ _ c=>au 10 20 c (fun _ _ c=>k8 b⁻¹ (bD (decide (((b.num).sign:Int)<(0:Int))) b.den) (ab b.num) d i.symm aM _ _ c.g) (fun _ _ c=>au 11 21 c (fun _ _ c=>qH a (b⁻¹) aM aM _ _ c.g c.f.1) (fun _ _ c=>bM c (fun _ _ c=>tP 12 0 0 (qc (a*(b⁻¹))) c (fun _ c=>tV 13 5 qT (tN (kX (c.ret [(0,0,5)] (.tuple #[qv (a*(b⁻¹)),qT]) (by rw[Rat.div_def]))))))))))))))))))
theorem io (x A c)(C:(lim (ab x)).length<=c)(p:(lim (ab x)).length<=2000000000)(y D d)(K:(lim (ab y)).length<=d)(F:(lim (ab y)).length<=2000000000)(w h)(g:G w h)(I:S3 A (lim (ab x)) h)(L:S3 D (lim (ab y)) h):CR 128 #[.agg #[.bool (af x),.slice A ((lim (ab x)).length) c],.agg #[.bool (af y),.slice D ((lim (ab y)).length) d]] w h (fun v h1=>RI h1 v (x*y)):=by
 have a:=(((sS g).aS I).aS L);refine go Tryz.func128 [(0,.agg #[.bool (af x),qS A ((lim (ab x)).length) c]),(1,.agg #[.bool (af y),qS D ((lim (ab y)).length) d])] rfl (aA (lA 2 26 ([.bool (af x),qS A ((lim (ab x)).length) c]) a (fun l w2 Q a=>lA 3 26 ([.bool (af y),qS D ((lim (ab y)).length) d]) a (fun e S O a=>lA 4 26 ([qF,sZ]) a (fun U V M a=>ag (cR 11 [] mixed a ao ?_))))));refine eV 0 5 (pB l) (eO 1 6 [(2,0,1)] (.bool (af x)) a (eV 2 7 (pB e) (eO 3 8 [(1,0,1)] (.bool (af y)) a (eV 4 9 (.bool ((af x) != (af y))) (eV 5 10 (qP l 1) (eO 6 11 [(2,1,1)] (qS A ((lim (ab x)).length) c) a (eV 7 12 (qP e 1) (eO 8 13 [(1,1,1)] (qS D ((lim (ab y)).length) d) a (eC 9 14 a (fun _ _ a=>pN (ab x) A c C (ab y) D d K oM oM _ _ a.g a.f.2.1 a.f.1) ?_)))))))));rintro _ _ _ _ _ a ⟨B,J,rfl,o,z⟩;replace a:=a.aS z;refine eC 10 15 a (fun _ _ a=>rI ((af x) != (af y)) ((ab x)*(ab y)) B J o _ _ a.g a.f.1) ?_;rintro _ _ _ _ _ a ⟨i,j,rfl,u,H⟩;replace a:=a.aS H;exact bM a (fun _ _ a=>tP 11 0 0 ([.bool (af (bD ((af x) != (af y)) ((ab x)*(ab y)))),qS i ((lim (ab (bD ((af x) != (af y)) ((ab x)*(ab y))))).length) j]) a (fun _ a=>tN (kX (a.ret [(0,0,2)] (.agg #[.bool (af (bD ((af x) != (af y)) ((ab x)*(ab y)))),qS i ((lim (ab (bD ((af x) != (af y)) ((ab x)*(ab y))))).length) j]) (by rw[<-nq x y];exact ⟨_,_,rfl,u,a.f.1⟩)))))
theorem CK (x A c)(p:(lim (ab x)).length<=c)(l:(lim (ab x)).length<=2000000000)(u:af x=false)(w h)(g:G w h)(y:S3 A (lim (ab x)) h):CR 131 #[.agg #[.bool false,.slice A ((lim (ab x)).length) c]] w h (fun v h1=>RI h1 v (-x)):=by
 have a:=((sS g).aS y);refine go Tryz.func131 [(0,.agg #[qF,qS A ((lim (ab x)).length) c])] rfl (aA (lA 1 26 ([qF,qS A ((lim (ab x)).length) c]) a (fun j w2 D a=>lA 2 26 ([qF,sZ]) a (fun B F C a=>aG (lL a [.v (pB j),.o qF 1 0 1,.v qT,.v (qP j 1),.o (qS A ((lim (ab x)).length) c) 1 1 1] (lC 8 a (rI true (ab x) A c p _ _ a.g a.f.1) ?_))))));rintro _ _ _ a ⟨i,e,rfl,d,z⟩;replace a:=a.aS z;exact lP 0 0 ([.bool (af (bD true (ab x))),qS i ((lim (ab (bD true (ab x)))).length) e]) a (fun _ a=>ae a [(0,0,2)] (.agg #[.bool (af (bD true (ab x))),qS i ((lim (ab (bD true (ab x)))).length) e]) (by rw[<-mt x,u];exact ⟨_,_,rfl,d,a.f.1⟩))
theorem AX (x A c)(p:(lim (ab x)).length<=c)(l:(lim (ab x)).length<=2000000000)(u:af x=true)(w h)(g:G w h)(y:S3 A (lim (ab x)) h):CR 131 #[.agg #[.bool true,.slice A ((lim (ab x)).length) c]] w h (fun v h1=>RI h1 v (-x)):=by
 have a:=((sS g).aS y);refine go Tryz.func131 [(0,.agg #[qT,qS A ((lim (ab x)).length) c])] rfl (aA (lA 1 26 ([qT,qS A ((lim (ab x)).length) c]) a (fun j w2 D a=>lA 2 26 ([qF,sZ]) a (fun B F C a=>aG (lL a [.v (pB j),.o qT 1 0 1,.v qF,.v (qP j 1),.o (qS A ((lim (ab x)).length) c) 1 1 1] (lC 8 a (rI false (ab x) A c p _ _ a.g a.f.1) ?_))))));rintro _ _ _ a ⟨i,e,rfl,d,z⟩;replace a:=a.aS z;exact lP 0 0 ([.bool (af (bD false (ab x))),qS i ((lim (ab (bD false (ab x)))).length) e]) a (fun _ a=>ae a [(0,0,2)] (.agg #[.bool (af (bD false (ab x))),qS i ((lim (ab (bD false (ab x)))).length) e]) (by rw[<-mt x,u];exact ⟨_,_,rfl,d,a.f.1⟩))
theorem v7 (x A c)(d:(lim (ab x)).length<=c)(a:(lim (ab x)).length<=2000000000)(w h)(g:G w h)(e:S3 A (lim (ab x)) h):CR 131 #[.agg #[.bool (af x),.slice A (lim (ab x)).length c]] w h (fun v h1=>RI h1 v (-x)):=by
 rcases hx:af x with _|_
 ·exact CK x A c d a hx w h g e
 ·exact AX x A c d a hx w h g e
theorem xB (x A c)(F:(lim (ab x)).length<=c)(u:(lim (ab x)).length<=2000000000)(y D d)(Q:(lim (ab y)).length<=d)(H:(lim (ab y)).length<=2000000000)(I:af x=false)(U:af y=false)(w h)(g:G w h)(K:S3 A (lim (ab x)) h)(S:S3 D (lim (ab y)) h):CR 127 #[.agg #[.bool false,.slice A ((lim (ab x)).length) c],.agg #[.bool false,.slice D ((lim (ab y)).length) d]] w h (fun v h1=>RI h1 v (x+y)):=by
 have a:=(((sS g).aS K).aS S);have L:=be I;have M:=be U;refine go Tryz.func127 [(0,.agg #[qF,qS A ((lim (ab x)).length) c]),(1,.agg #[qF,qS D ((lim (ab y)).length) d])] rfl (aA (lA 2 26 ([qF,qS A ((lim (ab x)).length) c]) a (fun e w2 Y a=>lA 3 26 ([qF,qS D ((lim (ab y)).length) d]) a (fun i Z X a=>lA 4 26 ([qF,sZ]) a (fun b7 W V a=>ag (aa a [.v (pB e),.o qF 2 0 1,.v (pB i),.o qF 1 0 1,.v qT] (ak (cQ (cR 8 [] mixed a ao ?_)))))))));refine eV 0 10 (pB e) (eO 1 11 [(2,0,1)] qF a (eV 2 12 (qP e 1) (eO 3 13 [(2,1,1)] (qS A ((lim (ab x)).length) c) a (eV 4 14 (qP i 1) (eO 5 15 [(1,1,1)] (qS D ((lim (ab y)).length) d) a (eC 6 16 a (fun _ _ a=>vr (ab x) A c F (ab y) D d Q oM oM _ _ a.g a.f.2.1 a.f.1) ?_))))));rintro _ _ _ _ _ a ⟨C,O,rfl,p,B⟩;replace a:=a.aS B;refine eC 7 17 a (fun _ _ a=>rI false ((ab x)+(ab y)) C O p _ _ a.g a.f.1) ?_;rintro _ _ _ _ _ a ⟨j,l,rfl,z,J⟩;replace a:=a.aS J;exact bM a (fun _ _ a=>tP 8 0 0 ([.bool (af (bD false ((ab x)+(ab y)))),qS j ((lim (ab (bD false ((ab x)+(ab y))))).length) l]) a (fun _ a=>tN (kX (a.ret [(0,0,2)] (.agg #[.bool (af (bD false ((ab x)+(ab y)))),qS j ((lim (ab (bD false ((ab x)+(ab y))))).length) l]) (by rw[show x+y=(bD false ((ab x)+(ab y))) by unfold bD ab at *;simp;omega];exact ⟨_,_,rfl,z,a.f.1⟩)))))
theorem wH (x A c)(l:(lim (ab x)).length<=c)(H:(lim (ab x)).length<=2000000000)(y D d)(p:(lim (ab y)).length<=d)(K:(lim (ab y)).length<=2000000000)(M:af x=false)(hy:af y=true)(w h)(g:G w h)(O:S3 A (lim (ab x)) h)(hD:S3 D (lim (ab y)) h):CR 127 #[.agg #[.bool false,.slice A ((lim (ab x)).length) c],.agg #[.bool true,.slice D ((lim (ab y)).length) d]] w h (fun v h1=>RI h1 v (x+y)):=by
 have a:=(((sS g).aS O).aS hD);have Q:=be M;have S:=bx hy;refine go Tryz.func127 [(0,.agg #[qF,qS A ((lim (ab x)).length) c]),(1,.agg #[qT,qS D ((lim (ab y)).length) d])] rfl (aA (lA 2 26 ([qF,qS A ((lim (ab x)).length) c]) a (fun i w2 h3 a=>lA 3 26 ([qT,qS D ((lim (ab y)).length) d]) a (fun e w5 h6 a=>lA 4 26 ([qF,sZ]) a (fun b7 w8 h9 a=>ag (aa a [.v (pB i),.o qF 2 0 1,.v (pB e),.o qT 1 0 1,.v qF] (ah (cK (cQ (aa a [.v (qP i 1),.o (qS A ((lim (ab x)).length) c) 2 1 1,.v (qP e 1),.o (qS D ((lim (ab y)).length) d) 1 1 1] (ar 22 a (iG (ab x) A c l (ab y) D d p oM oM _ _ a.g a.f.2.1 a.f.1) (fun _ _ a=>?_))))))))))));have J:=iB (ab x) (ab y);cases j:(decide ((0:Int)<=(bY (ab x) (ab y):Int)))
 .
  have Z:=oF j;refine lB 23 j (ah (cK (cQ (cR 8 [] mixed a ao ?_))));refine eV 0 32 (pB e) (eO 1 33 [(1,0,1)] qT a (eV 2 34 (qP e 1) (eO 3 35 [(1,1,1)] (qS D ((lim (ab y)).length) d) a (eV 4 36 (qP i 1) (eO 5 37 [(2,1,1)] (qS A ((lim (ab x)).length) c) a (eC 6 38 a (fun _ _ a=>mB (ab y) D d p (ab x) A c l oM oM oM _ _ a.g a.f.1 a.f.2.1) ?_))))));rintro _ _ _ _ _ a ⟨zp,zq,rfl,I,U⟩;replace a:=a.aS U;refine eC 7 39 a (fun _ _ a=>rI true ((ab y)-(ab x)) zp zq I _ _ a.g a.f.1) ?_;rintro _ _ _ _ _ a ⟨u,B,rfl,V,L⟩;replace a:=a.aS L;exact bM a (fun _ _ a=>tP 8 0 0 ([.bool (af (bD true ((ab y)-(ab x)))),qS u ((lim (ab (bD true ((ab y)-(ab x))))).length) B]) a (fun _ a=>tN (kX (a.ret [(0,0,2)] (.agg #[.bool (af (bD true ((ab y)-(ab x)))),qS u ((lim (ab (bD true ((ab y)-(ab x))))).length) B]) (by rw[show x+y=(bD true ((ab y)-(ab x))) by unfold bD ab at *;simp;omega];exact ⟨_,_,rfl,V,a.f.1⟩)))))
 have Z:=oT j;refine lB 23 j (ak (cQ (cR 8 [] mixed a ao ?_)));refine eV 0 24 (pB i) (eO 1 25 [(2,0,1)] qF a (eV 2 26 (qP i 1) (eO 3 27 [(2,1,1)] (qS A ((lim (ab x)).length) c) a (eV 4 28 (qP e 1) (eO 5 29 [(1,1,1)] (qS D ((lim (ab y)).length) d) a (eC 6 30 a (fun _ _ a=>mB (ab x) A c l (ab y) D d p oM oM oM _ _ a.g a.f.2.1 a.f.1) ?_))))));rintro _ _ _ _ _ a ⟨Y,W,rfl,zl,X⟩;replace a:=a.aS X;refine eC 7 31 a (fun _ _ a=>rI false ((ab x)-(ab y)) Y W zl _ _ a.g a.f.1) ?_;rintro _ _ _ _ _ a ⟨z,C,rfl,F,zo⟩;replace a:=a.aS zo;exact bM a (fun _ _ a=>tP 8 0 0 ([.bool (af (bD false ((ab x)-(ab y)))),qS z ((lim (ab (bD false ((ab x)-(ab y))))).length) C]) a (fun _ a=>tN (kX (a.ret [(0,0,2)] (.agg #[.bool (af (bD false ((ab x)-(ab y)))),qS z ((lim (ab (bD false ((ab x)-(ab y))))).length) C]) (by rw[show x+y=(bD false ((ab x)-(ab y))) by unfold bD ab at *;simp;omega];exact ⟨_,_,rfl,F,a.f.1⟩)))))
theorem xm (x A c)(l:(lim (ab x)).length<=c)(H:(lim (ab x)).length<=2000000000)(y D d)(p:(lim (ab y)).length<=d)(K:(lim (ab y)).length<=2000000000)(M:af x=true)(hy:af y=false)(w h)(g:G w h)(O:S3 A (lim (ab x)) h)(hD:S3 D (lim (ab y)) h):CR 127 #[.agg #[.bool true,.slice A ((lim (ab x)).length) c],.agg #[.bool false,.slice D ((lim (ab y)).length) d]] w h (fun v h1=>RI h1 v (x+y)):=by
 have a:=(((sS g).aS O).aS hD);have Q:=bx M;have S:=be hy;refine go Tryz.func127 [(0,.agg #[qT,qS A ((lim (ab x)).length) c]),(1,.agg #[qF,qS D ((lim (ab y)).length) d])] rfl (aA (lA 2 26 ([qT,qS A ((lim (ab x)).length) c]) a (fun i w2 h3 a=>lA 3 26 ([qF,qS D ((lim (ab y)).length) d]) a (fun e w5 h6 a=>lA 4 26 ([qF,sZ]) a (fun b7 w8 h9 a=>ag (aa a [.v (pB i),.o qT 2 0 1,.v (pB e),.o qF 1 0 1,.v qF] (ah (cK (cQ (aa a [.v (qP i 1),.o (qS A ((lim (ab x)).length) c) 2 1 1,.v (qP e 1),.o (qS D ((lim (ab y)).length) d) 1 1 1] (ar 22 a (iG (ab x) A c l (ab y) D d p oM oM _ _ a.g a.f.2.1 a.f.1) (fun _ _ a=>?_))))))))))));have J:=iB (ab x) (ab y);cases j:(decide ((0:Int)<=(bY (ab x) (ab y):Int)))
 .
  have Z:=oF j;refine lB 23 j (ah (cK (cQ (cR 8 [] mixed a ao ?_))));refine eV 0 32 (pB e) (eO 1 33 [(1,0,1)] qF a (eV 2 34 (qP e 1) (eO 3 35 [(1,1,1)] (qS D ((lim (ab y)).length) d) a (eV 4 36 (qP i 1) (eO 5 37 [(2,1,1)] (qS A ((lim (ab x)).length) c) a (eC 6 38 a (fun _ _ a=>mB (ab y) D d p (ab x) A c l oM oM oM _ _ a.g a.f.1 a.f.2.1) ?_))))));rintro _ _ _ _ _ a ⟨zp,zq,rfl,I,U⟩;replace a:=a.aS U;refine eC 7 39 a (fun _ _ a=>rI false ((ab y)-(ab x)) zp zq I _ _ a.g a.f.1) ?_;rintro _ _ _ _ _ a ⟨u,B,rfl,V,L⟩;replace a:=a.aS L;exact bM a (fun _ _ a=>tP 8 0 0 ([.bool (af (bD false ((ab y)-(ab x)))),qS u ((lim (ab (bD false ((ab y)-(ab x))))).length) B]) a (fun _ a=>tN (kX (a.ret [(0,0,2)] (.agg #[.bool (af (bD false ((ab y)-(ab x)))),qS u ((lim (ab (bD false ((ab y)-(ab x))))).length) B]) (by rw[show x+y=(bD false ((ab y)-(ab x))) by unfold bD ab at *;simp;omega];exact ⟨_,_,rfl,V,a.f.1⟩)))))
 have Z:=oT j;refine lB 23 j (ak (cQ (cR 8 [] mixed a ao ?_)));refine eV 0 24 (pB i) (eO 1 25 [(2,0,1)] qT a (eV 2 26 (qP i 1) (eO 3 27 [(2,1,1)] (qS A ((lim (ab x)).length) c) a (eV 4 28 (qP e 1) (eO 5 29 [(1,1,1)] (qS D ((lim (ab y)).length) d) a (eC 6 30 a (fun _ _ a=>mB (ab x) A c l (ab y) D d p oM oM oM _ _ a.g a.f.2.1 a.f.1) ?_))))));rintro _ _ _ _ _ a ⟨Y,W,rfl,zl,X⟩;replace a:=a.aS X;refine eC 7 31 a (fun _ _ a=>rI true ((ab x)-(ab y)) Y W zl _ _ a.g a.f.1) ?_;rintro _ _ _ _ _ a ⟨z,C,rfl,F,zo⟩;replace a:=a.aS zo;exact bM a (fun _ _ a=>tP 8 0 0 ([.bool (af (bD true ((ab x)-(ab y)))),qS z ((lim (ab (bD true ((ab x)-(ab y))))).length) C]) a (fun _ a=>tN (kX (a.ret [(0,0,2)] (.agg #[.bool (af (bD true ((ab x)-(ab y)))),qS z ((lim (ab (bD true ((ab x)-(ab y))))).length) C]) (by rw[show x+y=(bD true ((ab x)-(ab y))) by unfold bD ab at *;simp;omega];exact ⟨_,_,rfl,F,a.f.1⟩)))))
theorem wS (x A c)(F:(lim (ab x)).length<=c)(u:(lim (ab x)).length<=2000000000)(y D d)(Q:(lim (ab y)).length<=d)(H:(lim (ab y)).length<=2000000000)(I:af x=true)(U:af y=true)(w h)(g:G w h)(K:S3 A (lim (ab x)) h)(S:S3 D (lim (ab y)) h):CR 127 #[.agg #[.bool true,.slice A ((lim (ab x)).length) c],.agg #[.bool true,.slice D ((lim (ab y)).length) d]] w h (fun v h1=>RI h1 v (x+y)):=by
 have a:=(((sS g).aS K).aS S);have L:=bx I;have M:=bx U;refine go Tryz.func127 [(0,.agg #[qT,qS A ((lim (ab x)).length) c]),(1,.agg #[qT,qS D ((lim (ab y)).length) d])] rfl (aA (lA 2 26 ([qT,qS A ((lim (ab x)).length) c]) a (fun e w2 Y a=>lA 3 26 ([qT,qS D ((lim (ab y)).length) d]) a (fun i Z X a=>lA 4 26 ([qF,sZ]) a (fun b7 W V a=>ag (aa a [.v (pB e),.o qT 2 0 1,.v (pB i),.o qT 1 0 1,.v qT] (ak (cQ (cR 8 [] mixed a ao ?_)))))))));refine eV 0 10 (pB e) (eO 1 11 [(2,0,1)] qT a (eV 2 12 (qP e 1) (eO 3 13 [(2,1,1)] (qS A ((lim (ab x)).length) c) a (eV 4 14 (qP i 1) (eO 5 15 [(1,1,1)] (qS D ((lim (ab y)).length) d) a (eC 6 16 a (fun _ _ a=>vr (ab x) A c F (ab y) D d Q oM oM _ _ a.g a.f.2.1 a.f.1) ?_))))));rintro _ _ _ _ _ a ⟨C,O,rfl,p,B⟩;replace a:=a.aS B;refine eC 7 17 a (fun _ _ a=>rI true ((ab x)+(ab y)) C O p _ _ a.g a.f.1) ?_;rintro _ _ _ _ _ a ⟨j,l,rfl,z,J⟩;replace a:=a.aS J;exact bM a (fun _ _ a=>tP 8 0 0 ([.bool (af (bD true ((ab x)+(ab y)))),qS j ((lim (ab (bD true ((ab x)+(ab y))))).length) l]) a (fun _ a=>tN (kX (a.ret [(0,0,2)] (.agg #[.bool (af (bD true ((ab x)+(ab y)))),qS j ((lim (ab (bD true ((ab x)+(ab y))))).length) l]) (by rw[show x+y=(bD true ((ab x)+(ab y))) by unfold bD ab at *;simp;omega];exact ⟨_,_,rfl,z,a.f.1⟩)))))
theorem vU (x A c)(f:(lim (ab x)).length<=c)(e:(lim (ab x)).length<=2000000000)(y D d)(l:(lim (ab y)).length<=d)(a:(lim (ab y)).length<=2000000000)(w h)(g:G w h)(j:S3 A (lim (ab x)) h)(i:S3 D (lim (ab y)) h):CR 127 #[.agg #[.bool (af x),.slice A (lim (ab x)).length c],.agg #[.bool (af y),.slice D (lim (ab y)).length d]] w h (fun v h1=>RI h1 v (x+y)):=by
 rcases hx:af x with _|_<;>rcases hy:af y with _|_
 ·exact xB x A c f e y D d l a hx hy w h g j i
 ·exact wH x A c f e y D d l a hx hy w h g j i
 ·exact xm x A c f e y D d l a hx hy w h g j i
 ·exact wS x A c f e y D d l a hx hy w h g j i
theorem xk (x A c)(u:(lim (ab x)).length<=c)(f:(lim (ab x)).length<=2000000000)(hz:x=0)(w h)(g:G w h)(p:S3 A (lim (ab x)) h):CV 168 #[.agg #[.bool (af x),.slice A ((lim (ab x)).length) c]] w h (iV x.sign):=by
 have a:=((sS g).aS p);have l:=@bV (ab x);have i:ab x=x.natAbs:=rfl;refine go Tryz.func168 [(0,.agg #[.bool (af x),qS A ((lim (ab x)).length) c])] rfl (aA (lA 1 26 ([.bool (af x),qS A ((lim (ab x)).length) c]) a (fun j w2 y a=>lL a ac (ag (kZ (aa a [.v (qP j 1),.o (qS A ((lim (ab x)).length) c) 0 1 1,.v (nV ((lim (ab x)).length))] ?_))))));have d:((((lim (ab x)).length:Nat):Int) == (0:Int))=true:=sf oM;have e:=eq_of_beq d;exact lB 7 d (lL a ac (ak (aa a ac (ae a [] (iV 0) (by subst hz;rfl)))))
theorem wR (x A c)(u:(lim (ab x)).length<=c)(i:(lim (ab x)).length<=2000000000)(hz:x<0)(w h)(g:G w h)(p:S3 A (lim (ab x)) h):CV 168 #[.agg #[.bool true,.slice A ((lim (ab x)).length) c]] w h (iV x.sign):=by
 have a:=((sS g).aS p);have l:=@bV (ab x);have j:ab x=x.natAbs:=rfl;refine go Tryz.func168 [(0,.agg #[qT,qS A ((lim (ab x)).length) c])] rfl (aA (lA 1 26 ([qT,qS A ((lim (ab x)).length) c]) a (fun e w2 y a=>lL a ac (ag (kZ (aa a [.v (qP e 1),.o (qS A ((lim (ab x)).length) c) 0 1 1,.v (nV ((lim (ab x)).length))] ?_))))));have d:((((lim (ab x)).length:Nat):Int) == (0:Int))=false:=fB oM;have f:=aj d;exact lB 7 d (lL a ac (ah (aa a [.v (pB e),.o qT 0 0 1,.c] (ak (aa a ac (ae a [] (iV (-1)) (by rw[Ot hz])))))))
theorem xg (x A c)(u:(lim (ab x)).length<=c)(i:(lim (ab x)).length<=2000000000)(hz:0<x)(w h)(g:G w h)(p:S3 A (lim (ab x)) h):CV 168 #[.agg #[.bool false,.slice A ((lim (ab x)).length) c]] w h (iV x.sign):=by
 have a:=((sS g).aS p);have l:=@bV (ab x);have j:ab x=x.natAbs:=rfl;refine go Tryz.func168 [(0,.agg #[qF,qS A ((lim (ab x)).length) c])] rfl (aA (lA 1 26 ([qF,qS A ((lim (ab x)).length) c]) a (fun e w2 y a=>lL a ac (ag (kZ (aa a [.v (qP e 1),.o (qS A ((lim (ab x)).length) c) 0 1 1,.v (nV ((lim (ab x)).length))] ?_))))));have d:((((lim (ab x)).length:Nat):Int) == (0:Int))=false:=fB oM;have f:=aj d;exact lB 7 d (lL a ac (ah (aa a [.v (pB e),.o qF 0 0 1,.c] (ah (cK (aa a ac (ae a [] (iV 1) (by rw[Ou hz]))))))))
theorem rB (x A c)(d:(lim (ab x)).length<=c)(a:(lim (ab x)).length<=2000000000)(w h)(g:G w h)(e:S3 A (lim (ab x)) h):CV 168 #[.agg #[.bool (af x),.slice A (lim (ab x)).length c]] w h (iV x.sign):=by
 rcases Oq x 0 with hz|hz|hz
 ·have:=wR x A c d a hz w h g e
  rwa [<-show af x=true by simp[af,hz]] at this
 ·exact xk x A c d a hz w h g e
 ·have:=xg x A c d a hz w h g e
  rwa [<-show af x=false by simp[af];omega] at this
theorem Ed (x A c)(B:(lim (ab x)).length<=c)(l:(lim (ab x)).length<=2000000000)(y D d)(J:(lim (ab y)).length<=d)(C:(lim (ab y)).length<=2000000000)(w h)(g:G w h)(H:S3 A (lim (ab x)) h)(K:S3 D (lim (ab y)) h):CR 197 #[.agg #[.bool (af x),.slice A ((lim (ab x)).length) c],.agg #[.bool (af y),.slice D ((lim (ab y)).length) d]] w h (fun v h1=>RI h1 v (x-y)):=by
 have a:=(((sS g).aS H).aS K);have z:(lim (ab (-y))).length=(lim (ab y)).length:=by unfold ab;rw[ON]
 refine go Tryz.func197 [(0,.agg #[.bool (af x),qS A ((lim (ab x)).length) c]),(1,.agg #[.bool (af y),qS D ((lim (ab y)).length) d])] rfl (aA (lA 2 26 ([.bool (af x),qS A ((lim (ab x)).length) c]) a (fun V w2 Q a=>lA 3 26 ([.bool (af y),qS D ((lim (ab y)).length) d]) a (fun L S O a=>lA 4 26 ([qF,sZ]) a (fun U W M a=>ag (cR 4 [] mixed a ao ?_))))));refine eO 0 5 [(2,0,2)] (.agg #[.bool (af x),qS A ((lim (ab x)).length) c]) a (eO 1 6 [(1,0,2)] (.agg #[.bool (af y),qS D ((lim (ab y)).length) d]) a (eC 2 7 a (fun _ _ a=>v7 y D d J oM _ _ a.g a.f.1) ?_));rintro _ _ _ _ _ a ⟨u,I,rfl,j,p⟩;replace a:=a.aS p;refine eC 3 8 a (fun _ _ a=>vU x A c B oM (-y) u I j oM _ _ a.g a.f.r.1 a.f.1) ?_;rintro _ _ _ _ _ a ⟨e,i,rfl,o,F⟩;replace a:=a.aS F;exact bM a (fun _ _ a=>tP 4 0 0 ([.bool (af (x+(-y))),qS e ((lim (ab (x+(-y)))).length) i]) a (fun _ a=>tN (kX (a.ret [(0,0,2)] (.agg #[.bool (af (x+(-y))),qS e ((lim (ab (x+(-y)))).length) i]) (by rw[Int.sub_eq_add_neg];exact ⟨_,_,rfl,o,a.f.1⟩)))))
theorem wZ (x y):(x-y).sign=eZ x y:=by
 unfold eZ;rcases Oq x y with h|h|h
 ·rw[if_pos h,Ot oM]
 ·subst h;simp
 ·rw[if_neg oM,if_pos h,Ou oM]
theorem Fe (x A c)(p:(lim (ab x)).length<=c)(e:(lim (ab x)).length<=1999999999)(y D d)(F:(lim (ab y)).length<=d)(i:(lim (ab y)).length<=1999999999)(w h)(g:G w h)(B:S3 A (lim (ab x)) h)(H:S3 D (lim (ab y)) h):CV 170 #[.agg #[.bool (af x),.slice A ((lim (ab x)).length) c],.agg #[.bool (af y),.slice D ((lim (ab y)).length) d]] w h (iV (eZ x y)):=by
 have a:=(((sS g).aS B).aS H);have l:(lim (ab (x-y))).length<=2000000000:=gT (show ab (x-y)<=ab x+ab y by unfold ab;omega) (ji e i);refine go Tryz.func170 [(0,.agg #[.bool (af x),qS A ((lim (ab x)).length) c]),(1,.agg #[.bool (af y),qS D ((lim (ab y)).length) d])] rfl (aA (lA 2 26 ([.bool (af x),qS A ((lim (ab x)).length) c]) a (fun M w2 K a=>lA 3 26 ([.bool (af y),qS D ((lim (ab y)).length) d]) a (fun I L J a=>lL a ac (aG (lL a [.o (.agg #[.bool (af x),qS A ((lim (ab x)).length) c]) 1 0 2,.o (.agg #[.bool (af y),qS D ((lim (ab y)).length) d]) 0 0 2] (lC 7 a (Ed x A c p oM y D d F oM _ _ a.g a.f.2.1 a.f.1) ?_)))))));rintro _ _ _ a ⟨z,u,rfl,j,C⟩;replace a:=a.aS C;exact ar 8 a (rB (x-y) z u j oM _ _ a.g a.f.1) (fun _ _ a=>lL a ac (ae a [] (iV (((x-y)).sign)) (by rw[wZ])))
theorem AM (a A c)(i:(lim a).length<=c)(b D d)(o:(lim b).length<=d)(q)(j:q=N1 a b)(e:(lim a).length<=3000000000)(f:(lim b).length<=3000000000)(w h)(g:G w h)(l:S3 A (lim a) h)(p:S3 D (lim b) h):CR 171 #[.slice A (lim a).length c,.slice D (lim b).length d] w h (fun v h1=>RN h1 v q):=by
 subst j;exact DC a A c i b D d o e f w h g l p
theorem oZ (n d)(i:d≠0):(mkR n d).num=bD (af n != af d) (ab n/N1 (ab n) (ab d))/\(mkR n d).den=ab d/N1 (ab n) (ab d)/\0<N1 (ab n) (ab d):=by
  have c:0<ab d:=by unfold ab;omega
  have hz:ab (if d<0 then -n else n)=ab n:=by unfold ab;split<;>omega
  obtain ⟨h1,h,j,f⟩:=jd (if d<0 then -n else n) (ab d) c;rw[hz] at h1 h j f
  refine ⟨?_,h,f⟩;have l:=re _ _ j;rw[hz] at l
  show (mkRat _ _).num=_
  rw[h1,<-l];by_cases hn:n=0
  . have hk:ab n/N1 (ab n) (ab d)=0:=by rw[hn];exact Nat.zero_div _
    rw[hk];unfold bD;simp
  . have e:decide ((if d<0 then -n else n).sign<0)=(af n != af d):=by
      unfold af;rcases Oq n 0 with a|a|a
      . rcases Oq d 0 with b|b|b
        . rw[if_pos b,Ou oM];simp[a,b]
        . exact absurd b i
        . rw[if_neg oM,Ot a];simp[a,show ¬d<0 by omega]
      . exact absurd a hn
      . rcases Oq d 0 with b|b|b
        . rw[if_pos b,Ot oM];simp[show ¬n<0 by omega,b]
        . exact absurd b i
        . rw[if_neg oM,Ou a];simp[show ¬n<0 by omega,show ¬d<0 by omega]
    rw[e]
theorem CC (x A c)(M:(lim (ab x)).length<=c)(W:(lim (ab x)).length<=2000000000)(y D d)(U:(lim (ab y)).length<=d)(I:(lim (ab y)).length<=2000000000)(H:y≠0)(w h)(g:G w h)(Z:S3 A (lim (ab x)) h)(hD:S3 D (lim (ab y)) h):CR 126 #[.agg #[.bool (af x),.slice A ((lim (ab x)).length) c],.agg #[.bool (af y),.slice D ((lim (ab y)).length) d]] w h (fun v h1=>RQ h1 v (mkR x y)):=by
 have a:=(((sS g).aS Z).aS hD);obtain ⟨l,p,j⟩:=oZ x y H;obtain ⟨q,hq⟩:∃ q,q=N1 (ab x) (ab y):=⟨_,rfl⟩;rw[<-hq] at l p j
 have X:(lim q).length<=2000000000:=gT (by rw[hq];exact OL _ (by unfold ab;omega)) I;refine go Tryz.func126 [(0,.agg #[.bool (af x),qS A ((lim (ab x)).length) c]),(1,.agg #[.bool (af y),qS D ((lim (ab y)).length) d])] rfl (aA (lA 2 26 ([.bool (af x),qS A ((lim (ab x)).length) c]) a (fun J w2 h3 a=>lA 3 26 ([.bool (af y),qS D ((lim (ab y)).length) d]) a (fun B w5 h6 a=>lA 4 28 cD a (fun b7 w8 h9 a=>aG (lL a [.v (qP J 1),.o (qS A ((lim (ab x)).length) c) 2 1 1,.v (qP B 1),.o (qS D ((lim (ab y)).length) d) 1 1 1] (lC 14 a (AM (ab x) A c M (ab y) D d U q hq oM oM _ _ a.g a.f.2.1 a.f.1) ?_)))))));rintro _ _ _ a ⟨O,L,rfl,K,Y⟩;replace a:=a.aS Y;refine lL a ac (aG (lL a [.v (qP J 1),.o (qS A ((lim (ab x)).length) c) 2 1 1,.c] (lC 19 a (qu (ab x) A c M q O L K oM oM j _ _ a.g a.f.r.1 a.f.1) ?_)));rintro _ _ _ a ⟨_,i,rfl,⟨Q,S,rfl,zl,zm⟩,-⟩;replace a:=a.aS zm;refine lL a [.c,.v (qS Q ((lim ((ab x)/q)).length) S),.v i,.c,.c] (aG (lL a [.v (qP B 1),.o (qS D ((lim (ab y)).length) d) 1 1 1,.c] (lC 26 a (qu (ab y) D d U q O L K oM oM j _ _ a.g a.f.r.1 a.f.2.1) ?_)));rintro _ _ _ a ⟨_,e,rfl,⟨u,z,rfl,V,zo⟩,-⟩;replace a:=a.aS zo;refine lL a [.c,.v (qS u ((lim ((ab y)/q)).length) z),.v e,.c,.c] (aG (lL a [.v (pB J),.o (.bool (af x)) 2 0 1,.v (pB B),.o (.bool (af y)) 1 0 1,.v (.bool ((af x) != (af y))),.c] (lC 35 a (rI ((af x) != (af y)) ((ab x)/q) Q S zl _ _ a.g a.f.2.1) ?_)));rintro _ _ _ a ⟨F,C,rfl,zp,zq⟩;replace a:=a.aS zq;exact lL a [.c,.v (.agg #[.bool (af (bD ((af x) != (af y)) ((ab x)/q))),qS F ((lim (ab (bD ((af x) != (af y)) ((ab x)/q)))).length) C,qS u ((lim ((ab y)/q)).length) z])] (lP 0 0 ([.bool (af (bD ((af x) != (af y)) ((ab x)/q))),qS F ((lim (ab (bD ((af x) != (af y)) ((ab x)/q)))).length) C,qS u ((lim ((ab y)/q)).length) z]) a (fun _ a=>ae a [(0,0,3)] (.agg #[.bool (af (bD ((af x) != (af y)) ((ab x)/q))),qS F ((lim (ab (bD ((af x) != (af y)) ((ab x)/q)))).length) C,qS u ((lim ((ab y)/q)).length) z]) (by unfold RQ;rw[l,p];exact ⟨_,_,_,_,rfl,zp,V,a.f.1,a.f.2.1⟩)))
theorem jb (x d):(lim (ab (x*((d:Nat):Int)))).length<=(lim (ab x)).length+(lim d).length:=by
 have:ab (x*((d:Nat):Int))=ab x*d:=Om x (d:Int);rw[this];exact gJ
theorem wP (a:Rat)(i c1 e d)(C:(lim (ab a.num)).length<=c1)(p:(lim a.den).length<=d)(F:(lim (ab a.num)).length<=300000000)(z:(lim a.den).length<=300000000)(w h)(g:G w h)(j:S3 i (lim (ab a.num)) h)(u:S3 e (lim a.den) h):CR 129 #[.agg #[.bool (af a.num),.slice i ((lim (ab a.num)).length) c1,.slice e ((lim (a.den)).length) d]] w h (fun v h1=>RI h1 v (a.den:Int)):=by
 have c:=(((sS g).aS j).aS u);refine go Tryz.func129 [(0,.agg #[.bool (af a.num),qS i ((lim (ab a.num)).length) c1,qS e ((lim (a.den)).length) d])] rfl (aA (lA 1 28 ([.bool (af a.num),qS i ((lim (ab a.num)).length) c1,qS e ((lim (a.den)).length) d]) c (fun D w2 J c=>lA 2 26 ([qF,sZ]) c (fun H K I c=>aG (lL c [.v (qP D 2),.o (qS e ((lim (a.den)).length) d) 1 2 1] (lC 5 c (rI false a.den e d p _ _ c.g c.f.1) ?_))))));rintro _ _ _ c ⟨y,x,rfl,l,B⟩;replace c:=c.aS B;exact lP 0 0 ([.bool (af (bD false a.den)),qS y ((lim (ab (bD false a.den))).length) x]) c (fun _ c=>ae c [(0,0,2)] (.agg #[.bool (af (bD false a.den)),qS y ((lim (ab (bD false a.den))).length) x]) (⟨_,_,rfl,l,c.f.1⟩))
theorem x8 (a:Rat)(d c1 i e)(l:(lim (ab a.num)).length<=c1)(x:(lim a.den).length<=e)(z:(lim (ab a.num)).length<=300000000)(u:(lim a.den).length<=300000000)(w h)(g:G w h)(j:S3 d (lim (ab a.num)) h)(p:S3 i (lim a.den) h):CV 123 #[.agg #[.bool (af a.num),.slice d ((lim (ab a.num)).length) c1,.slice i ((lim (a.den)).length) e]] w h (iV a.num.sign):=by
 have c:=(((sS g).aS j).aS p);exact go Tryz.func123 [(0,.agg #[.bool (af a.num),qS d ((lim (ab a.num)).length) c1,qS i ((lim (a.den)).length) e])] rfl (aA (lA 1 28 ([.bool (af a.num),qS d ((lim (ab a.num)).length) c1,qS i ((lim (a.den)).length) e]) c (fun y w2 C c=>lL c ac (aG (lL c [.v (pB y),.o (.agg #[.bool (af a.num),qS d ((lim (ab a.num)).length) c1]) 0 0 2] (ar 5 c (rB a.num d c1 l oM _ _ c.g c.f.2.1) (fun B D c=>lL c ac (ae c [] (iV ((a.num).sign)) rfl))))))))
theorem Jl (a e c1 o i)(p:(lim (ab a.num)).length<=c1)(z:(lim a.den).length<=i)(hn1:(lim (ab a.num)).length<=300000000)(M:(lim a.den).length<=300000000)(b d c2 j l)(u:(lim (ab b.num)).length<=c2)(C:(lim b.den).length<=l)(L:(lim (ab b.num)).length<=300000000)(W:(lim b.den).length<=300000000)(w h)(g:G w h)(x:S3 e (lim (ab a.num)) h)(F:S3 o (lim a.den) h)(D:S3 d (lim (ab b.num)) h)(B:S3 j (lim b.den) h):CV 125 #[.agg #[.bool (af a.num),.slice e ((lim (ab a.num)).length) c1,.slice o ((lim (a.den)).length) i],.agg #[.bool (af b.num),.slice d ((lim (ab b.num)).length) c2,.slice j ((lim (b.den)).length) l]] w h (iV (dC a b)):=by
 have c:=(((((sS g).aS x).aS F).aS D).aS B);have Q:=jb a.num b.den;have U:=jb b.num a.den;refine go Tryz.func125 [(0,.agg #[.bool (af a.num),qS e ((lim (ab a.num)).length) c1,qS o ((lim (a.den)).length) i]),(1,.agg #[.bool (af b.num),qS d ((lim (ab b.num)).length) c2,qS j ((lim (b.den)).length) l])] rfl (aA (lA 2 28 ([.bool (af a.num),qS e ((lim (ab a.num)).length) c1,qS o ((lim (a.den)).length) i]) c (fun b1 w2 h3 c=>lA 3 28 ([.bool (af b.num),qS d ((lim (ab b.num)).length) c2,qS j ((lim (b.den)).length) l]) c (fun H w5 h6 c=>lL c ac (ag (cR 11 [] mixed c ao ?_))))));refine eV 0 5 (pB b1) (eO 1 6 [(1,0,2)] (.agg #[.bool (af a.num),qS e ((lim (ab a.num)).length) c1]) c (eO 2 7 [(0,0,3)] (.agg #[.bool (af b.num),qS d ((lim (ab b.num)).length) c2,qS j ((lim (b.den)).length) l]) c (eV 5 10 (pB H) (eO 6 11 [(0,0,2)] (.agg #[.bool (af b.num),qS d ((lim (ab b.num)).length) c2]) c (eO 7 12 [(1,0,3)] (.agg #[.bool (af a.num),qS e ((lim (ab a.num)).length) c1,qS o ((lim (a.den)).length) i]) c (eC 3 8 c (fun _ _ c=>wP b d c2 j l u C oM oM _ _ c.g c.f.2.1 c.f.1) ?_))))));rintro _ _ _ _ _ c ⟨Y,V,rfl,y,za⟩;replace c:=c.aS za;refine eC 4 9 c (fun _ _ c=>io a.num e c1 p oM (b.den:Int) Y V y (show (lim (b.den)).length<=2000000000 by omega) _ _ c.g c.f.q.1 c.f.1) ?_;rintro _ _ _ _ _ c ⟨zi,zj,rfl,zb,I⟩;replace c:=c.aS I;refine eC 8 13 c (fun _ _ c=>wP a e c1 o i p z oM oM _ _ c.g c.f.q.2.1 c.f.q.1) ?_;rintro _ _ _ _ _ c ⟨X,zl,rfl,O,K⟩;replace c:=c.aS K;refine eC 9 14 c (fun _ _ c=>io b.num d c2 u oM (a.den:Int) X zl O (show (lim (a.den)).length<=2000000000 by omega) _ _ c.g c.f.q.1 c.f.1) ?_;rintro _ _ _ _ _ c ⟨zm,J,rfl,Z,S⟩;replace c:=c.aS S;exact au 10 15 c (fun _ _ c=>Fe (a.num*(b.den:Int)) zi zj zb oM (b.num*(a.den:Int)) zm J Z oM _ _ c.g c.f.r.1 c.f.1) (fun _ _ c=>bM c (fun _ _ c=>tV 11 4 (iV (eZ (a.num*(b.den:Int)) (b.num*(a.den:Int)))) (tN (kX (c.ret [] (iV (eZ (a.num*(b.den:Int)) (b.num*(a.den:Int)))) rfl)))))
theorem x3 (x y){k:Nat}(c:(lim (ab x)).length<=k)(a:(lim (ab y)).length<=k):(lim (ab (x+y))).length<=k+1:=gT (show ab (x+y)<=ab x+ab y from OM x y) (ji c a)
theorem o5 (x y):(lim (ab (x*y))).length<=(lim (ab x)).length+(lim (ab y)).length:=by
 have:ab (x*y)=ab x*ab y:=Om x y;rw[this];exact gJ
theorem vt (z n):mkR z (bD false n)=mkRat z n:=by
 have h1:bD false n=(n:Int):=rfl;rw[h1];unfold mkR;rw[if_neg oM];rfl
theorem E0 (a b):mkR (a.num*((b.den:Nat):Int)+b.num*((a.den:Nat):Int)) (bD false (a.den*b.den))=a+b:=by
 rw[vt,Rat.add_def,OR]
theorem Ey (a b):mkR (a.num*b.num) (bD false (a.den*b.den))=a*b:=by
 rw[vt,Rat.mul_def,OR]
theorem F7 (a b:Rat):bD false (a.den*b.den)≠0:=by
 have h:=Nat.mul_pos a.den_pos b.den_pos;show ((a.den*b.den:Nat):Int)≠0
 omega
theorem EQ (a j c1 o i)(y:(lim (ab a.num)).length<=c1)(x:(lim a.den).length<=i)(hn1:(lim (ab a.num)).length<=300000000)(M:(lim a.den).length<=300000000)(b d c2 e l)(u:(lim (ab b.num)).length<=c2)(p:(lim b.den).length<=l)(hn2:(lim (ab b.num)).length<=300000000)(hm2:(lim b.den).length<=300000000)(w h)(g:G w h)(C:S3 j (lim (ab a.num)) h)(B:S3 o (lim a.den) h)(D:S3 d (lim (ab b.num)) h)(z:S3 e (lim b.den) h):CR 74 #[.agg #[.bool (af a.num),.slice j ((lim (ab a.num)).length) c1,.slice o ((lim (a.den)).length) i],.agg #[.bool (af b.num),.slice d ((lim (ab b.num)).length) c2,.slice e ((lim (b.den)).length) l]] w h (fun v h1=>RQ h1 v (a+b)):=by
 have c:=(((((sS g).aS C).aS B).aS D).aS z);have hx1:=jb a.num b.den;have O:=jb b.num a.den;have hxs:=x3 (a.num*(b.den:Int)) (b.num*(a.den:Int)) (k:=600000000) oM oM;have Q:=@gJ a.den b.den;refine go Tryz.func74 [(0,.agg #[.bool (af a.num),qS j ((lim (ab a.num)).length) c1,qS o ((lim (a.den)).length) i]),(1,.agg #[.bool (af b.num),qS d ((lim (ab b.num)).length) c2,qS e ((lim (b.den)).length) l])] rfl (aA (lA 2 28 ([.bool (af a.num),qS j ((lim (ab a.num)).length) c1,qS o ((lim (a.den)).length) i]) c (fun K w2 h3 c=>lA 3 28 ([.bool (af b.num),qS d ((lim (ab b.num)).length) c2,qS e ((lim (b.den)).length) l]) c (fun J w5 h6 c=>lA 4 28 cD c (fun b7 w8 h9 c=>ag (cR 18 [] mixed c ao ?_))))));refine eV 0 5 (pB K) (eO 1 6 [(2,0,2)] (.agg #[.bool (af a.num),qS j ((lim (ab a.num)).length) c1]) c (eO 2 7 [(1,0,3)] (.agg #[.bool (af b.num),qS d ((lim (ab b.num)).length) c2,qS e ((lim (b.den)).length) l]) c (eV 5 10 (pB J) (eO 6 11 [(1,0,2)] (.agg #[.bool (af b.num),qS d ((lim (ab b.num)).length) c2]) c (eO 7 12 [(2,0,3)] (.agg #[.bool (af a.num),qS j ((lim (ab a.num)).length) c1,qS o ((lim (a.den)).length) i]) c (eV 11 16 (qP K 2) (eO 12 17 [(2,2,1)] (qS o ((lim (a.den)).length) i) c (eV 13 18 (qP J 2) (eO 14 19 [(1,2,1)] (qS e ((lim (b.den)).length) l) c (eC 3 8 c (fun _ _ c=>wP b d c2 e l u p oM oM _ _ c.g c.f.2.1 c.f.1) ?_))))))))));rintro _ _ _ _ _ c ⟨zx,Y,rfl,ze,S⟩;replace c:=c.aS S;refine eC 4 9 c (fun _ _ c=>io a.num j c1 y oM (b.den:Int) zx Y ze (show (lim (b.den)).length<=2000000000 by omega) _ _ c.g c.f.q.1 c.f.1) ?_;rintro _ _ _ _ _ c ⟨zB,V,rfl,zg,U⟩;replace c:=c.aS U;refine eC 8 13 c (fun _ _ c=>wP a j c1 o i y x oM oM _ _ c.g c.f.q.2.1 c.f.q.1) ?_;rintro _ _ _ _ _ c ⟨zE,zG,rfl,zj,zk⟩;replace c:=c.aS zk;refine eC 9 14 c (fun _ _ c=>io b.num d c2 u oM (a.den:Int) zE zG zj (show (lim (a.den)).length<=2000000000 by omega) _ _ c.g c.f.q.1 c.f.1) ?_;rintro _ _ _ _ _ c ⟨zH,zI,rfl,zl,zm⟩;replace c:=c.aS zm;refine eC 10 15 c (fun _ _ c=>vU (a.num*(b.den:Int)) zB V zg oM (b.num*(a.den:Int)) zH zI zl oM _ _ c.g c.f.r.1 c.f.1) ?_;rintro _ _ _ _ _ c ⟨zJ,zK,rfl,zn,zo⟩;replace c:=c.aS zo;refine eC 15 20 c (fun _ _ c=>pN a.den o i x b.den e l p oM oM _ _ c.g c.f.q.r.2.1 c.f.q.2.1) ?_;rintro _ _ _ _ _ c ⟨Z,zM,rfl,zp,zq⟩;replace c:=c.aS zq;refine eC 16 21 c (fun _ _ c=>rI false (a.den*b.den) Z zM zp _ _ c.g c.f.1) ?_;rintro _ _ _ _ _ c ⟨zN,zP,rfl,X,W⟩;replace c:=c.aS W;refine eC 17 22 c (fun _ _ c=>CC ((a.num*(b.den:Int))+(b.num*(a.den:Int))) zJ zK zn oM (bD false (a.den*b.den)) zN zP X (show (lim ((a.den*b.den))).length<=2000000000 by omega) (F7 a b) _ _ c.g c.f.r.1 c.f.1) ?_;rintro _ _ _ _ _ c ⟨H,I,L,F,rfl,zt,zu,zv,zw⟩;replace c:=c.aP zv zw;exact bM c (fun _ _ c=>tP 18 0 0 (iT (mkR ((a.num*(b.den:Int))+(b.num*(a.den:Int))) (bD false (a.den*b.den))) H I L F) c (fun _ c=>tN (kX (c.ret [(0,0,3)] (rG (mkR ((a.num*(b.den:Int))+(b.num*(a.den:Int))) (bD false (a.den*b.den))) H I L F) (by rw[<-E0 a b];exact ⟨_,_,_,_,rfl,zt,zu,c.f.2.1,c.f.1⟩)))))
theorem Iu (a j c1 o d)(B:(lim (ab a.num)).length<=c1)(u:(lim a.den).length<=d)(hn1:(lim (ab a.num)).length<=300000000)(S:(lim a.den).length<=300000000)(b e c2 i l)(D:(lim (ab b.num)).length<=c2)(y:(lim b.den).length<=l)(Q:(lim (ab b.num)).length<=300000000)(W:(lim b.den).length<=300000000)(w h)(g:G w h)(p:S3 j (lim (ab a.num)) h)(C:S3 o (lim a.den) h)(z:S3 e (lim (ab b.num)) h)(x:S3 i (lim b.den) h):CR 167 #[.agg #[.bool (af a.num),.slice j ((lim (ab a.num)).length) c1,.slice o ((lim (a.den)).length) d],.agg #[.bool (af b.num),.slice e ((lim (ab b.num)).length) c2,.slice i ((lim (b.den)).length) l]] w h (fun v h1=>RQ h1 v (a*b)):=by
 have c:=(((((sS g).aS p).aS C).aS z).aS x);have U:=o5 a.num b.num;have Y:=@gJ a.den b.den;refine go Tryz.func167 [(0,.agg #[.bool (af a.num),qS j ((lim (ab a.num)).length) c1,qS o ((lim (a.den)).length) d]),(1,.agg #[.bool (af b.num),qS e ((lim (ab b.num)).length) c2,qS i ((lim (b.den)).length) l])] rfl (aA (lA 2 28 ([.bool (af a.num),qS j ((lim (ab a.num)).length) c1,qS o ((lim (a.den)).length) d]) c (fun L w2 h3 c=>lA 3 28 ([.bool (af b.num),qS e ((lim (ab b.num)).length) c2,qS i ((lim (b.den)).length) l]) c (fun F w5 h6 c=>lA 4 28 cD c (fun b7 w8 h9 c=>ag (cR 12 [] mixed c ao ?_))))));refine eV 0 5 (pB L) (eO 1 6 [(2,0,2)] (.agg #[.bool (af a.num),qS j ((lim (ab a.num)).length) c1]) c (eV 2 7 (pB F) (eO 3 8 [(1,0,2)] (.agg #[.bool (af b.num),qS e ((lim (ab b.num)).length) c2]) c (eV 5 10 (qP L 2) (eO 6 11 [(2,2,1)] (qS o ((lim (a.den)).length) d) c (eV 7 12 (qP F 2) (eO 8 13 [(1,2,1)] (qS i ((lim (b.den)).length) l) c (eC 4 9 c (fun _ _ c=>io a.num j c1 B oM b.num e c2 D oM _ _ c.g c.f.r.2.1 c.f.2.1) ?_))))))));rintro _ _ _ _ _ c ⟨zp,zq,rfl,O,Z⟩;replace c:=c.aS Z;refine eC 9 14 c (fun _ _ c=>pN a.den o d u b.den i l y oM oM _ _ c.g c.f.r.2.1 c.f.2.1) ?_;rintro _ _ _ _ _ c ⟨zr,zs,rfl,V,zi⟩;replace c:=c.aS zi;refine eC 10 15 c (fun _ _ c=>rI false (a.den*b.den) zr zs V _ _ c.g c.f.1) ?_;rintro _ _ _ _ _ c ⟨zt,zu,rfl,zj,X⟩;replace c:=c.aS X;refine eC 11 16 c (fun _ _ c=>CC (a.num*b.num) zp zq O oM (bD false (a.den*b.den)) zt zu zj (show (lim ((a.den*b.den))).length<=2000000000 by omega) (F7 a b) _ _ c.g c.f.r.1 c.f.1) ?_;rintro _ _ _ _ _ c ⟨J,K,H,I,rfl,zl,zm,M,zo⟩;replace c:=c.aP M zo;exact bM c (fun _ _ c=>tP 12 0 0 (iT (mkR (a.num*b.num) (bD false (a.den*b.den))) J K H I) c (fun _ c=>tN (kX (c.ret [(0,0,3)] (rG (mkR (a.num*b.num) (bD false (a.den*b.den))) J K H I) (by rw[<-Ey a b];exact ⟨_,_,_,_,rfl,zl,zm,c.f.2.1,c.f.1⟩)))))
theorem IW (n d)(c:d≠0):mkR n d=(n:Rat)/(d:Rat):=by
 unfold mkR;have f:(d:Rat)≠0:=by simpa using c
 rcases Oq d 0 with h|h|h
 ·rw[if_pos h,OS]
  have e:((ab d:Nat):Rat) = -(d:Rat):=by
   have:((ab d:Nat):Int) = -d:=by unfold ab;omega
   have a:(((ab d:Nat):Int):Rat)=((-d:Int):Rat):=by rw[this]
   rw[OT,Rat.intCast_neg] at a;exact a
  rw[e];simp;grind
 ·exact absurd h c
 ·rw[if_neg oM,OS]
  have e:((ab d:Nat):Rat)=(d:Rat):=by
   have:((ab d:Nat):Int)=d:=by unfold ab;omega
   have a:(((ab d:Nat):Int):Rat)=((d:Int):Rat):=by rw[this]
   rw[OT] at a;exact a
  rw[e]
theorem E7 (a b)(d:b.num≠0):mkR (a.num*((b.den:Nat):Int)) (((a.den:Nat):Int)*b.num)=a/b:=by
 have ha:=a.den_pos;have e:=b.den_pos;have c:((a.den:Nat):Int)*b.num≠0:=OU oM d;rw[IW _ _ c];have f:a=(a.num:Rat)/(a.den:Rat):=by rw[<-OS,OV]
 have h:b=(b.num:Rat)/(b.den:Rat):=by rw[<-OS,OV]
 have h1:((a.den:Nat):Rat)≠0:=by simp;omega
 have j:((b.den:Nat):Rat)≠0:=by simp;omega
 have l:((b.num:Int):Rat)≠0:=by simpa using d
 have i:a/b=((a.num:Rat)/(a.den:Rat))/((b.num:Rat)/(b.den:Rat)):=by rw[<-f,<-h]
 rw[i];simp only[Rat.intCast_mul,OT];generalize (a.num:Rat)=x at *
 generalize (b.num:Rat)=y at *
 generalize ((a.den:Nat):Rat)=z at *
 generalize ((b.den:Nat):Rat)=t at *
 grind
theorem wI {z:Int}(h0 : -(2^63)<=z)(h1:z<(2^63)):(lim (ab z)).length<=2:=eU (by unfold ab;omega)
theorem ud (z)(h0 : -(2^63)<=z)(h1:z<(2^63))(w h)(g:G w h):CR 15 #[iV z] w h (fun v h1=>RQ h1 v (z:Rat)):=by
 have a:=sS g;refine go Tryz.func15 [(0,iV z)] rfl (aA (lA 2 28 cD a (fun B w2 y a=>aG (lL a ac (lC 4 a (s7 z oM oM _ _ a.g) ?_)))));rintro _ x u a ⟨l,j,rfl,c,d⟩;replace a:=a.aS d;refine lC 5 a (qE 1 oM _ _ a.g) ?_;rintro _ _ _ a ⟨e,i,rfl,o,p⟩;replace a:=a.aS p;exact lL a [.v (.agg #[.bool (af z),qS l ((lim (ab z)).length) j,qS e ((lim 1).length) i])] (lP 0 0 ([.bool (af z),qS l ((lim (ab z)).length) j,qS e ((lim 1).length) i]) a (fun _ a=>ae a [(0,0,3)] (.agg #[.bool (af z),qS l ((lim (ab z)).length) j,qS e ((lim 1).length) i]) (by unfold RQ;rw[OH,OI];exact ⟨_,_,_,_,rfl,c,o,a.f.2.1,a.f.1⟩)))
theorem LL (a e c1 o i)(u:(lim (ab a.num)).length<=c1)(z:(lim a.den).length<=i)(hn1:(lim (ab a.num)).length<=300000000)(S:(lim a.den).length<=300000000)(b d c2 j l)(x:(lim (ab b.num)).length<=c2)(C:(lim b.den).length<=l)(Q:(lim (ab b.num)).length<=300000000)(Y:(lim b.den).length<=300000000)(p:b.num≠0)(w h)(g:G w h)(y:S3 e (lim (ab a.num)) h)(F:S3 o (lim a.den) h)(D:S3 d (lim (ab b.num)) h)(B:S3 j (lim b.den) h):CR 169 #[.agg #[.bool (af a.num),.slice e ((lim (ab a.num)).length) c1,.slice o ((lim (a.den)).length) i],.agg #[.bool (af b.num),.slice d ((lim (ab b.num)).length) c2,.slice j ((lim (b.den)).length) l]] w h (fun v h1=>RQ h1 v (a/b)):=by
 have c:=(((((sS g).aS y).aS F).aS D).aS B);have V:=jb a.num b.den;have X:(lim (ab ((a.den:Int)*b.num))).length<=600000000:=ep (o5 (a.den:Int) b.num) (by show (lim a.den).length+_<=_;omega);refine go Tryz.func169 [(0,.agg #[.bool (af a.num),qS e ((lim (ab a.num)).length) c1,qS o ((lim (a.den)).length) i]),(1,.agg #[.bool (af b.num),qS d ((lim (ab b.num)).length) c2,qS j ((lim (b.den)).length) l])] rfl (aA (lA 2 28 ([.bool (af a.num),qS e ((lim (ab a.num)).length) c1,qS o ((lim (a.den)).length) i]) c (fun b1 w2 h3 c=>lA 3 28 ([.bool (af b.num),qS d ((lim (ab b.num)).length) c2,qS j ((lim (b.den)).length) l]) c (fun L w5 h6 c=>lA 4 28 cD c (fun b7 w8 h9 c=>ag (cR 11 [] mixed c ao ?_))))));refine eV 0 5 (pB b1) (eO 1 6 [(2,0,2)] (.agg #[.bool (af a.num),qS e ((lim (ab a.num)).length) c1]) c (eO 2 7 [(1,0,3)] (.agg #[.bool (af b.num),qS d ((lim (ab b.num)).length) c2,qS j ((lim (b.den)).length) l]) c (eO 5 10 [(2,0,3)] (.agg #[.bool (af a.num),qS e ((lim (ab a.num)).length) c1,qS o ((lim (a.den)).length) i]) c (eV 7 12 (pB L) (eO 8 13 [(1,0,2)] (.agg #[.bool (af b.num),qS d ((lim (ab b.num)).length) c2]) c (eC 3 8 c (fun _ _ c=>wP b d c2 j l x C oM oM _ _ c.g c.f.2.1 c.f.1) ?_))))));rintro _ _ _ _ _ c ⟨zr,zs,rfl,O,zf⟩;replace c:=c.aS zf;refine eC 4 9 c (fun _ _ c=>io a.num e c1 u oM (b.den:Int) zr zs O (show (lim (b.den)).length<=2000000000 by omega) _ _ c.g c.f.q.1 c.f.1) ?_;rintro _ _ _ _ _ c ⟨zt,zu,rfl,W,zi⟩;replace c:=c.aS zi;refine eC 6 11 c (fun _ _ c=>wP a e c1 o i u z oM oM _ _ c.g c.f.q.2.1 c.f.q.1) ?_;rintro _ _ _ _ _ c ⟨zv,zw,rfl,zj,Z⟩;replace c:=c.aS Z;refine eC 9 14 c (fun _ _ c=>io (a.den:Int) zv zw zj (show (lim (a.den)).length<=2000000000 by omega) b.num d c2 x oM _ _ c.g c.f.1 c.f.q.1) ?_;rintro _ _ _ _ _ c ⟨U,zA,rfl,zl,zm⟩;replace c:=c.aS zm;refine eC 10 15 c (fun _ _ c=>CC (a.num*(b.den:Int)) zt zu W oM ((a.den:Int)*b.num) U zA zl oM (OU (by have:=a.den_pos;omega) p) _ _ c.g c.f.r.1 c.f.1) ?_;rintro _ _ _ _ _ c ⟨J,K,H,I,rfl,M,zo,zp,zq⟩;replace c:=c.aP zp zq;exact bM c (fun _ _ c=>tP 11 0 0 (iT (mkR (a.num*(b.den:Int)) ((a.den:Int)*b.num)) J K H I) c (fun _ c=>tN (kX (c.ret [(0,0,3)] (rG (mkR (a.num*(b.den:Int)) ((a.den:Int)*b.num)) J K H I) (by rw[<-E7 a b p];exact ⟨_,_,_,_,rfl,M,zo,c.f.2.1,c.f.1⟩)))))
theorem IH {P:Program}{Γ:cC}{o:Oper}{t u:TypeId}{x y:Operand}{k ky:IntKind}{a n:Nat}(c:o.op=.binOp .shr t x y u)(d:ev Γ x=.int k (a:Int))(e:ev Γ y=.int ky (n:Int))(hn:n<=k.bits)(w):
  (execOp (ev Γ) o).run P w=.ok (.value (.int k ((a/2^n:Nat):Int))) w:=by
 have:=Kj (P:=P) c d e hn w;rw[show ((a:Int)/2^n)=((a/2^n:Nat):Int) by simp] at this
 exact this
theorem Da {P:Program}{Γ:cC}{o:Oper}{t u:TypeId}{x y:Operand}{ky:IntKind}{a n:Nat}(c:o.op=.binOp .shl t x y u)(d:ev Γ x=.int .u32 (a:Int))(e:ev Γ y=.int ky (n:Int))(hn:n<=32)(hf:a*2^n<(2^32))(w):
  (execOp (ev Γ) o).run P w=.ok (.value (.int .u32 ((a*2^n:Nat):Int))) w:=by
 have:=KJ (P:=P) c d e hn w;rw[show ((a:Int)*2^n)=((a*2^n:Nat):Int) by simp,Jv hf] at this
 exact this
theorem wW (a A c)(U:(lim a).length<=c)(D:(lim a).length<=4000000000)(w h)(g:G w h)(Z:S3 A (lim a) h):CR 112 #[.slice A ((lim a).length) c] w h (fun v h1=>∃ A,v=.slice A ((nb a+7)/8) ((nb a+7)/8)/\SlO 1 oe 0 h1 A (gt a ((nb a+7)/8))):=by
 have e:=((sS g).aS Z);have Y:=ur a;refine go Tryz.func112 [(0,qS A ((lim a).length) c)] rfl (aa e ac (aG (lL e ac (ar 7 e (rZ a A c U D _ _ e.g e.f.1) (fun w1 h2 e=>bw 8 ((nb a:Nat)+7) ((nb a)+7) (lV 9 (nV (((nb a)+7)/8)) ?_ (hr:=aK (dU (t:=3) (u:=3) (x:=.tmp 8) (y:=.const (iV 8)) (k:=.i64) (a:=(((nb a)+7:Nat):Int)) (b:=(8:Int)) kR kR kR oM _) (dN ((nb a)+7) 8 oM))))))));refine lL e ac (aG (lL e ac (lK 11 5 (((nb a)+7)/8:Nat) 1 1 (.int .u8 0) oe 0 e (fun z w4 h5 e=>?_))));have H:(Af (((nb a)+7)/8:Nat) 0).length=(((nb a)+7)/8:Nat):=by simp
 refine lL e ac (ag (aa e ac (aZ ?_)));refine bH _ (CG.loop (fun F Γ X=>∃ (i:Nat)(l:List Nat)(h_:Hp),F=((nb a+7)/8)-i/\Γ=[(0,qS A ((lim a).length) c),(2,sZ),(3,nV (((nb a)+7)/8)),(4,qS (sB z) (((nb a)+7)/8:Nat) (((nb a)+7)/8:Nat)),(5,nV i)]/\SS w h X h_ [⟨z,5,(l).flatMap oe⟩] [] [S3 A (lim a)]/\i<=((nb a+7)/8)/\l.length=((nb a+7)/8)/\(∀ j,j<i->l.getD (((nb a+7)/8)-1-j) 0=a/256^j%256)) _ ⟨0,Af (((nb a)+7)/8:Nat) 0,h5,rfl,rfl,e.to _ _,NY _,H,(fun j L=>absurd L oM)⟩ ?_);rintro _ _ w7 ⟨i,l,Q,V,rfl,e,hi,p,M⟩;have hai:=(Ld.lim a).get (i/4);refine cQ (aa e ax ?_);cases C:(decide ((i:Int)<((((nb a)+7)/8:Nat):Int)))
 .
  have zb:=oF C;refine lB 14 C (ah (CG.exit ?_))
  show CG _ _ _ _ _ _ _ _
  refine aa e ax (lN (kX ?_));have S:i=((nb a+7)/8):=by omega
  have I:l=gt a ((nb a+7)/8):=tE p (fun j L=>M j oM);rw[I] at e
  obtain ⟨_,e,B,J,K⟩:=e.pub 0;replace e:=(e.to [] []).aS (SlO.of_flat (sz:=1) (f:=oe) (d:=0) (b:=z) (o:=0) (l:=gt a ((nb a+7)/8)) (fun _=>rfl) B);exact e.ret [] (qS (sB z) (((nb a)+7)/8:Nat) (((nb a)+7)/8:Nat)) (⟨sB z,rfl,e.f.1⟩)
 have zb:=oT C;refine lB 14 C (ak (cK (cQ (kZ (kQ (lL e ax (bw 19 ((((nb a)+7)/8:Nat)-1) ((((nb a)+7)/8:Nat)-1) ?_)))))));refine lL e ac (bw 21 (((((nb a)+7)/8:Nat)-1:Nat)-(i:Nat)) (((((nb a)+7)/8:Nat)-1:Nat)-i) ?_);refine lL e ax (lV 24 (nV (i/4)) ?_ (hr:=aK (dU (t:=3) (u:=3) (x:=.tmp 23) (y:=.const (iV 4)) (k:=.i64) (a:=(i:Int)) (b:=(4:Int)) kR kR kR oM _) (dN i 4 oM)));refine lX 25 A ((lim a).length) c 1 (i/4:Nat) (i/4) ((e.f.1).ok oM) (lH 26 (mW ((lim a).getD (i/4) 0)) e ((e.f.1).el (i/4) oM) (lL e ac (lV 28 (nV (i%4)) ?_ (hr:=aK (fP (t:=3) (u:=3) (x:=.tmp 27) (y:=.const (iV 4)) (k:=.i64) (a:=(i:Int)) (b:=(4:Int)) kR kR kR oM _) (dH i 4)))));refine bw 29 (8*(i%4:Nat)) (8*(i%4)) (lV 30 (mV (8*(i%4))) ?_ (hr:=rU (((8*(i%4):Nat):Int)) kR (bh oM oM)));refine lV 31 (mW ((lim a).getD (i/4) 0/2^(8*(i%4)))) ?_ (hr:=IH (t:=153) (u:=154) (x:=.tmp 26) (y:=.tmp 30) (k:=.u32) (ky:=.u64) (a:=(lim a).getD (i/4) 0) (n:=8*(i%4)) kR kR kR (show 8*(i%4)<=32 by omega) _);refine lV 32 (.int .u8 ((lim a).getD (i/4) 0/2^(8*(i%4))%256:Nat)) ?_ (hr:=aK (n:=IntKind.wrap .u8 (((lim a).getD (i/4) 0/2^(8*(i%4)):Nat):Int)) kR (DW _));refine lX 33 (sB z) (((nb a)+7)/8:Nat) (((nb a)+7)/8:Nat) 1 (((((nb a)+7)/8:Nat)-1:Nat)-i:Nat) (((((nb a)+7)/8:Nat)-1:Nat)-i:Nat) rfl (lW 0 l oe 1 (((((nb a)+7)/8:Nat)-1:Nat)-i:Nat) ((lim a).getD (i/4) 0/2^(8*(i%4))%256:Nat) e oM (fun _ e=>?_));have O:((l).set (((((nb a)+7)/8:Nat)-1:Nat)-i:Nat) ((lim a).getD (i/4) 0/2^(8*(i%4))%256:Nat)).length=(((nb a)+7)/8:Nat):=by rw[NI];exact p
 replace e:=e.to [⟨z,5,((l).set (((((nb a)+7)/8:Nat)-1:Nat)-i:Nat) ((lim a).getD (i/4) 0/2^(8*(i%4))%256:Nat)).flatMap oe⟩] [];refine lN (kQ (lL e ac (bw 16 ((i:Nat)+1) (i+1) ?_)));refine lL e ac (lD ?_);intro a_ W;refine ⟨_,_,?_,⟨i+1,(l).set (((((nb a)+7)/8:Nat)-1:Nat)-i:Nat) ((lim a).getD (i/4) 0/2^(8*(i%4))%256:Nat),Q,rfl,rfl,e.to _ _,oM,O,(iC p oM M (BF a i))⟩,W.to _ kR⟩
 omega
theorem wJ {n m:Nat}(h:n<256^m):∀ j,j<(m+3)/4->(Af ((m+3)/4) 0).getD j 0=fY n (m-0) j:=fun j a=>by
 rw[Nat.sub_zero,Dn h];simp[a]
theorem wY {l:List Nat}{n m i x:Nat}(hi:i<m)(d:l.length=(m+3)/4)(hv:∀ j,j<(m+3)/4->l.getD j 0=fY n (m-i) j)(c:x=fY n (m-1-i) ((m-1-i)/4)):
  ∀ j,j<(m+3)/4->(l.set ((m-1-i)/4) x).getD j 0=fY n (m-(i+1)) j:=by
 intro j a;rw[show m-(i+1)=m-1-i by omega]
 by_cases e:j=(m-1-i)/4
 ·subst e
  have:(m-1-i)/4<l.length:=by omega
  simp[this,c]
 ·rw[oY,if_neg e,show m-1-i+1=m-i by omega,<-hv j a]
  simp only[Nc];rw[vi (Ne.symm e)]
theorem uQ {n k:Nat}:fY n (k+1) (k/4) ||| (n/256^k%256)*2^(8*(k%4))=fY n k (k/4):=by rw[oY n k (k/4),if_pos rfl]
theorem oX {b k:Nat}(a:b<256):b*2^(8*(k%4))<(2^32):=by
 have:k%4=0\/k%4=1\/k%4=2\/k%4=3:=by omega
 rcases this with e|e|e|e<;>rw[e]<;>omega
theorem BI {l:List Nat}{n m:Nat}(hn:n<256^m)(c:l.length=(m+3)/4)(hv:∀ j,j<(m+3)/4->l.getD j 0=fY n (m-m) j):ai (2^32) l=n/\Ld l:=by
 constructor
 ·rw[<-kY]
  refine jj l n (fun j a=>by rw[hv j oM,Nat.sub_self,wU]) ?_;refine Nat.lt_of_lt_of_le hn ?_;rw[c,show (256:Nat)=2^8 by rfl,show ((2^32):Nat)=2^32 by rfl,<-Nat.pow_mul,<-Nat.pow_mul];exact Nat.pow_le_pow_right oM oM
 ·intro x d
  obtain ⟨j,a,rfl⟩:=List.mem_iff_getElem.1 d;have:=hv j oM;have e:l[j]=l.getD j 0:=by simp[a]
  rw[e,this];exact pY _ _ _
theorem Cl (n m A p)(hc:m<=p)(hm:m<=(2^40))(hn:n<256^m)(w h)(g:G w h)(Z:SlO 1 oe 0 h A (gt n m)):CR 203 #[.slice A m p] w h (fun v h1=>RN h1 v n):=by
 have e:=((sS g).aS Z);have hbl:=kv n m;refine go Tryz.func203 [(0,qS A m p)] rfl (aa e ac (aG (lL e [.c,.v (nV m)] (bw 8 ((m:Nat)+3) (m+3) ?_))));refine lV 9 (nV ((m+3)/4)) ?_ (hr:=aK (dU (t:=3) (u:=3) (x:=.tmp 8) (y:=.const (iV 4)) (k:=.i64) (a:=((m+3:Nat):Int)) (b:=(4:Int)) kR kR kR oM _) (dN (m+3) 4 oM));refine lK 10 153 ((m+3)/4) 1 4 (uW 0) a8 0 e (fun C w2 Y e=>?_);have L:(Af ((m+3)/4) 0).length=((m+3)/4):=by simp
 refine lL e ac (ag (aa e ac (aZ ?_)));refine bH _ (CG.loop (fun O Γ X=>∃ (i:Nat)(l:List Nat)(Q:Hp),O=m-i/\Γ=[(0,qS A m p),(2,sZ),(3,qS (sB C) ((m+3)/4) ((m+3)/4)),(4,nV i)]/\SS w h X Q [⟨C,153,(l).flatMap a8⟩] [] [fun Q=>SlO 1 oe 0 Q A (gt n m)]/\i<=m/\l.length=(m+3)/4/\(∀ j,j<(m+3)/4->l.getD j 0=fY n (m-i) j)) _ ⟨0,Af ((m+3)/4) 0,Y,rfl,rfl,e.to _ _,NY _,L,(wJ hn)⟩ ?_);rintro _ _ w5 ⟨i,l,h6,hm7,rfl,e,hi,B,hv⟩;refine cQ (aa e [.c,.c,.v (nV m)] ?_);cases D:(decide ((i:Int)<(m:Int)))
 .
  have J:=oF D;refine lB 14 D (ah (CG.exit ?_))
  show CG _ _ _ _ _ _ _ _
  refine aa e ac ?_;have K:i=m:=by omega
  rw[K] at hv;obtain ⟨S,M⟩:=BI hn B hv;obtain ⟨h9,e,H,U,V⟩:=e.pub 0;replace e:=(e.to [] []).aS (SlO.of_flat (sz:=1) (f:=a8) (d:=0) (b:=C) (o:=0) (l:=l) (fun _=>rfl) H);exact ar 43 e (jM (sB C) ((m+3)/4) l ((m+3)/4) B oM oM _ _ e.g e.f.1) (fun _ _ e=>lL e ac (ae e [] (qS (sB C) (tl l ((m+3)/4)) ((m+3)/4)) (RN.trim M S B oM e.f.1)))
 have J:=oT D;refine lB 14 D (ak (cK (cQ (kZ (aa e [.c,.v (nV m)] (bw 19 ((m:Nat)-1) (m-1) ?_))))));refine lL e ac (bw 21 ((m-1:Nat)-(i:Nat)) ((m-1)-i) ?_);refine lL e ac (lN (cR 19 [] mixed e ao ?_));refine eV 0 22 (qS (sB C) ((m+3)/4) ((m+3)/4)) (eV 1 23 (nV ((m-1)-i)) (eV 2 24 (nV (((m-1)-i)/4)) ?_ (hv:=fun _=>aK (dU (t:=3) (u:=3) (x:=.tmp 23) (y:=.const (iV 4)) (k:=.i64) (a:=(((m-1)-i:Nat):Int)) (b:=(4:Int)) kR kR kR oM _) (dN ((m-1)-i) 4 oM))));refine eV 3 25 (qS (sB C) ((m+3)/4) ((m+3)/4)) (eV 4 26 (nV ((m-1)-i)) (eV 5 27 (nV (((m-1)-i)/4)) ?_ (hv:=fun _=>aK (dU (t:=3) (u:=3) (x:=.tmp 26) (y:=.const (iV 4)) (k:=.i64) (a:=(((m-1)-i:Nat):Int)) (b:=(4:Int)) kR kR kR oM _) (dN ((m-1)-i) 4 oM))));refine eX 6 28 (sB C) ((m+3)/4) ((m+3)/4) 1 (((m-1)-i)/4:Nat) (((m-1)-i)/4:Nat) rfl (eQ 7 29 0 l a8 1 0 (((m-1)-i)/4:Nat) (mW ((l).getD (((m-1)-i)/4:Nat) 0)) e oM (eV 8 30 (qS A m p) (eV 9 31 (nV i) (eX 10 32 A m p 1 (i:Nat) i ((e.f.1).ok oM) ?_))));have z:=hv ((m-1-i)/4) oM;have F:l.getD ((m-1-i)/4) 0 ||| (n/256^(m-1-i)%256)*2^(8*((m-1-i)%4))=fY n (m-1-i) ((m-1-i)/4):=by rw[z,show m-i=m-1-i+1 by omega];exact uQ
 have I:l.getD ((m-1-i)/4) 0<(2^32):=by rw[z];exact pY _ _ _
 have z:=hv ((m-1-i)/4) oM;have F:l.getD ((m-1-i)/4) 0 ||| (n/256^(m-1-i)%256)*2^(8*((m-1-i)%4))=fY n (m-1-i) ((m-1-i)/4):=by rw[z,show m-i=m-1-i+1 by omega];exact uQ
 have I:l.getD ((m-1-i)/4) 0<(2^32):=by rw[z];exact pY _ _ _
 refine qL 11 33 (.int .u8 ((gt n m).getD i 0:Nat)) e ((e.f.1).el i oM) (by rw[jA n m _ oM]) (eV 12 34 (mW (n/256^(m-1-i)%256)) ?_ (hv:=fun _=>rT (((n/256^(m-1-i)%256:Nat):Int)) kR (qi oM oM)));refine eV 13 35 (nV ((m-1)-i)) (eV 14 36 (nV (((m-1)-i)%4)) ?_ (hv:=fun _=>aK (fP (t:=3) (u:=3) (x:=.tmp 35) (y:=.const (iV 4)) (k:=.i64) (a:=(((m-1)-i:Nat):Int)) (b:=(4:Int)) kR kR kR oM _) (dH ((m-1)-i) 4)));refine kL 15 37 (8*(((m-1)-i)%4:Nat)) (8*(((m-1)-i)%4:Nat)) (eV 16 38 (mV (8*(((m-1)-i)%4:Nat))) ?_ (hv:=fun _=>rU (((8*(((m-1)-i)%4:Nat):Nat):Int)) kR (bh oM oM)));refine eV 17 39 (mW ((n/256^(m-1-i)%256)*2^(8*((m-1-i)%4)))) ?_ (hv:=fun _=>Da (t:=153) (u:=154) (x:=.tmp 34) (y:=.tmp 38) (ky:=.u64) (a:=n/256^(m-1-i)%256) (n:=8*((m-1-i)%4)) kR kR kR oM (oX oM) _);refine eV 18 40 (mW (fY n (m-1-i) ((m-1-i)/4))) ?_ (hv:=fun _=>aK (IN (t:=153) (u:=153) (x:=.tmp 29) (y:=.tmp 39) (a:=l.getD ((m-1-i)/4) 0) (b:=(n/256^(m-1-i)%256)*2^(8*((m-1-i)%4))) kR kR kR I (oX oM) _) (congrArg Int.ofNat F));refine bM e (fun _ zb e=>tX 19 41 (sB C) ((m+3)/4) ((m+3)/4) 1 (((m-1)-i)/4:Nat) (((m-1)-i)/4:Nat) rfl (tW 20 0 l a8 1 (((m-1)-i)/4:Nat) (fY n (m-1-i) ((m-1-i)/4):Nat) e oM (fun _ e=>?_)));have za:((l).set (((m-1)-i)/4:Nat) (fY n (m-1-i) ((m-1-i)/4):Nat)).length=((m+3)/4):=by rw[NI];exact B
 replace e:=e.to [⟨C,153,((l).set (((m-1)-i)/4:Nat) (fY n (m-1-i) ((m-1-i)/4):Nat)).flatMap a8⟩] [];refine tN (kQ (lL e ac (bw 16 ((i:Nat)+1) (i+1) ?_)));refine lL e ac (lD ?_);intro a_ W;refine ⟨_,_,?_,⟨i+1,(l).set (((m-1)-i)/4:Nat) (fY n (m-1-i) ((m-1-i)/4):Nat),zb,rfl,rfl,e.to _ _,oM,za,(wY oM B hv rfl)⟩,W.to _ kR⟩
 omega
def kP (q:Rat):Rat:=if q.num<0 then -q else q
theorem LQ.ln {q:Rat}(h:LQ (10^8) q):(lim (ab q.num)).length<=300000000:=ep (uI _) (by have:=h.1;omega)
theorem LQ.ld {q:Rat}(h:LQ (10^8) q):(lim q.den).length<=300000000:=ep (uI _) (by have:=h.2;omega)
theorem nl {k:Nat}{q:Rat}(h:LQ k q)(hk:k<=(10^8):=by omega):(lim (ab q.num)).length<=300000000:=LQ.ln (h.mono hk)
theorem nD {k:Nat}{q:Rat}(h:LQ k q)(hk:k<=(10^8):=by omega):(lim q.den).length<=300000000:=LQ.ld (h.mono hk)
theorem LQ.sub {k l:Nat}{a b:Rat}(ha:LQ k a)(c:LQ l b):LQ (k+l+1) (a-b):=by rw[OO];exact ha.add c.neg
theorem LQ.inv {k:Nat}{q:Rat}(h:LQ k q):LQ k q⁻¹:=by
 by_cases hz:q.num=0
 ·have:q=0:=by rw[<-OW];exact hz
  subst this;rw[Rat.inv_zero];exact h
 ·obtain ⟨h1,a⟩:=uK q hz
  exact ⟨by rw[h1,fH];exact h.2,by rw[a];exact h.1⟩
theorem LQ.div {k l:Nat}{a b:Rat}(ha:LQ k a)(c:LQ l b):LQ (k+l) (a/b):=by rw[Rat.div_def];exact ha.mul c.inv
theorem LQ.int {z:Int}(h0 : -(2^63)<=z)(h1:z<=(2^63-1)):LQ 1 (z:Rat):=⟨by rw[OH];exact dj.2 (by unfold ab;omega),by rw[OI];exact dj.2 oM⟩
theorem LQ.lit {z:Int}(h : -(2^63)<=z/\z<=(2^63-1)):LQ 1 (z:Rat):=LQ.int h.1 h.2
def HB (a b:List Rat):Nat->Rat
  | 0=>0
  | k+1=>HB a b k+a.getD k 0*b.getD k 0
theorem Jw {h:Hp}{v:Value}{a:Rat}(hv:RP h v (-a.num) a.den):RQ h v (-a):=by unfold RQ;rw[OJ,OK];exact hv
theorem LP (a i c1 e d)(x:(lim (ab a.num)).length<=c1)(u:(lim a.den).length<=d)(D:(lim (ab a.num)).length<=300000000)(B:(lim a.den).length<=300000000)(w h)(g:G w h)(l:S3 i (lim (ab a.num)) h)(y:S3 e (lim a.den) h):CR 75 #[rG a i c1 e d] w h (fun v h1=>RQ h1 v (-a)):=by
 have c:=(((sS g).aS l).aS y);refine go Tryz.func75 [(0,rG a i c1 e d)] rfl (aA (lA 1 28 (iT a i c1 e d) c (fun z w2 I c=>lA 2 28 cD c (fun F J H c=>ag (cR 6 [] mixed c ao ?_)))));refine eV 0 3 (pB z) (eO 1 4 [(1,0,2)] (.agg #[.bool (af a.num),qS i ((lim (ab a.num)).length) c1]) c (eV 3 6 (qP z 2) (eO 4 7 [(1,2,1)] (qS e ((lim a.den).length) d) c (eC 2 5 c (fun _ _ c=>v7 a.num i c1 x oM _ _ c.g c.f.2.1) ?_))));rintro _ _ _ _ _ c ⟨o,j,rfl,p,C⟩;replace c:=c.aS C;exact eV 5 8 (.agg #[.bool (af (-a.num)),qS o ((lim (ab (-a.num))).length) j,qS e ((lim a.den).length) d]) (bM c (fun _ _ c=>tP 6 0 0 ([.bool (af (-a.num)),qS o ((lim (ab (-a.num))).length) j,qS e ((lim a.den).length) d]) c (fun _ c=>tN (kX (c.ret [(0,0,3)] (.agg #[.bool (af (-a.num)),qS o ((lim (ab (-a.num))).length) j,qS e ((lim a.den).length) d]) (Jw ⟨_,_,_,_,rfl,p,u,c.f.1,c.f.2.1⟩))))))
theorem G1 (a j c1 o d)(H:(lim (ab a.num)).length<=c1)(z:(lim a.den).length<=d)(D:(lim (ab a.num)).length<=300000000)(x:(lim a.den).length<=300000000)(b e c2 i l)(J:(lim (ab b.num)).length<=c2)(C:(lim b.den).length<=l)(p:(lim (ab b.num)).length<=300000000)(u:(lim b.den).length<=300000000)(w h)(g:G w h)(y:S3 j (lim (ab a.num)) h)(I:S3 o (lim a.den) h)(F:S3 e (lim (ab b.num)) h)(B:S3 i (lim b.den) h):CR 32 #[rG a j c1 o d,rG b e c2 i l] w h (fun v h1=>RQ h1 v (a-b)):=by
 have c:=(((((sS g).aS y).aS I).aS F).aS B);refine go Tryz.func32 [(0,rG a j c1 o d),(1,rG b e c2 i l)] rfl (aA (lA 2 28 (iT a j c1 o d) c (fun b1 w2 h3 c=>lA 3 28 (iT b e c2 i l) c (fun b4 w5 h6 c=>lA 4 28 cD c (fun b7 w8 h9 c=>ag (cR 4 [] mixed c ao ?_))))));refine eO 0 5 [(2,0,3)] (rG a j c1 o d) c (eO 1 6 [(1,0,3)] (rG b e c2 i l) c (eC 2 7 c (fun _ _ c=>LP b e c2 i l J C p u _ _ c.g c.f.2.1 c.f.1) ?_));rintro _ _ _ _ _ c ⟨Q,zo,zp,zq,rfl,S,W,U,X⟩;replace c:=c.aP U X;refine eC 3 8 c (fun _ _ c=>EQ a j c1 o d H z D x (-b) Q zo zp zq S W (by rw[OJ];unfold ab;rw[ON];exact p) (by rw[OK];exact u) _ _ c.g c.f.q.2.1 c.f.q.1 c.f.2.1 c.f.1) ?_;rintro _ _ _ _ _ c ⟨M,O,K,L,rfl,Y,V,zl,Z⟩;replace c:=c.aP zl Z;exact bM c (fun _ _ c=>tP 4 0 0 (iT (a+(-b)) M O K L) c (fun _ c=>tN (kX (c.ret [(0,0,3)] (rG (a+(-b)) M O K L) (by rw[OO];exact ⟨_,_,_,_,rfl,Y,V,c.f.2.1,c.f.1⟩)))))
theorem mN (a A c)(f:(lim a).length<=c)(b D d)(o:(lim b).length<=d)(e:(lim a).length<=3000000000)(u:(lim b).length<=1)(x:0<b)(w h)(g:G w h)(j:S3 A (lim a) h)(p:S3 D (lim b) h):CR 172 #[.slice A (lim a).length c,.slice D (lim b).length d] w h (fun v h1=>∃ l i,v=.tuple #[l,i]/\RN h1 l (a/b)/\RN h1 i (a%b)):=by
 have y:=bV.2 x;rcases ea a b with h1|h1
 ·exact oN a A c f b D d o e oM h1 w h g j p
 ·exact mF a A c f b D d o e oM h1 oM w h g j p
theorem Cf (a A c)(S:(lim a).length<=c)(b D d)(hd:(lim b).length<=d)(z:(lim a).length<=3000000000)(B:(lim b).length<=1)(w h)(g:G w h)(hA:S3 A (lim a) h)(hD:S3 D (lim b) h):CR 171 #[.slice A ((lim a).length) c,.slice D ((lim b).length) d] w h (fun v h1=>RN h1 v (N1 a b)):=by
 have e:=(((sS g).aS hA).aS hD);refine go Tryz.func171 [(0,qS A ((lim a).length) c),(1,qS D ((lim b).length) d)] rfl (aa e ac (ag (kZ ?_)));replace e:=e.aS e.f.1;replace e:=e.aS e.f.r.1;refine bH _ (CG.loop (fun F Γ V=>∃ (x:Nat)(j:Z9)(c1:Nat)(y:Nat)(l:Z9)(c2:Nat)(I:Hp),F=y/\Γ=[(4,sZ),(0,qS j ((lim x).length) c1),(1,qS l ((lim y).length) c2)]/\SS w h V I [] [] [S3 j (lim x),S3 l (lim y),S3 D (lim b),S3 A (lim a)]/\(lim x).length<=c1/\(lim y).length<=c2/\(lim x).length<=3000000000/\(lim y).length<=1/\N1 x y=N1 a b) _ ⟨a,A,c,b,D,d,h,rfl,rfl,e.to _ _,S,hd,z,B,rfl⟩ ?_);rintro _ _ w1 ⟨x,j,c1,y,l,c2,h2,M,rfl,e,o,u,W,Z,K⟩;refine cQ (aa e [.c,.v (nV ((lim y).length))] ?_);cases i:(decide ((0:Int)<(((lim y).length:Nat):Int)))
 .
  have p:=oF i;refine lB 9 i (ah (CG.exit ?_))
  show CG _ _ _ _ _ _ _ _
  refine aa e ax (lN (kX ?_));have H:y=0:=Nat.eq_zero_of_not_pos (fun I=>by have:=bV.2 I;omega);exact e.ret [] (qS j ((lim x).length) c1) (by rw[<-K,H,Ol];exact ⟨j,c1,rfl,o,e.f.1⟩)
 have p:=oT i;refine lB 9 i (ak (cK (kZ (aa e ax (lC 13 e (mN x j c1 o y l c2 u oM oM (bV.1 oM) _ _ e.g e.f.1 e.f.2.1) ?_)))));rintro _ w5 Y e ⟨_,_,rfl,⟨X,cq,rfl,Q,hq⟩,⟨L,J,rfl,C,hr⟩⟩;replace e:=e.aS hr;have hmd:=As x (bV.1 (show 0<(lim y).length by omega));have O:=dP (show x%y<=y by omega);refine lL e [.c,.v (qS X (lim (x/y)).length cq),.v (qS L ((lim (x%y)).length) J),.c,.c] (aG (lL e ax (lN (kQ (lL e ax (lD ?_))))));intro a_ U;replace e:=((e.tl.tl.tl.aS e.f.1).aS e.f.r.1);refine ⟨_,_,?_,⟨y,l,c2,x%y,L,J,Y,rfl,rfl,e.to _ _,u,C,oM,oM,(by rw[jI];exact K)⟩,U.to _ kR⟩
 omega
theorem wF (a A c)(i:(lim a).length<=c)(b D d)(o:(lim b).length<=d)(q)(j:q=N1 a b)(e:(lim a).length<=3000000000)(f:(lim b).length<=1)(w h)(g:G w h)(l:S3 A (lim a) h)(p:S3 D (lim b) h):CR 171 #[.slice A (lim a).length c,.slice D (lim b).length d] w h (fun v h1=>RN h1 v q):=by
 subst j;exact Cf a A c i b D d o e f w h g l p
theorem tL {z:Int}(h0 : -(2^32)<z)(h1:z<(2^32)):(lim (ab z)).length<=1:=eU (by unfold ab;omega)
theorem Hs (x A c)(M:(lim (ab x)).length<=c)(W:(lim (ab x)).length<=2000000000)(y D d)(U:(lim (ab y)).length<=d)(I:(lim (ab y)).length<=1)(H:y≠0)(w h)(g:G w h)(Z:S3 A (lim (ab x)) h)(hD:S3 D (lim (ab y)) h):CR 126 #[.agg #[.bool (af x),.slice A ((lim (ab x)).length) c],.agg #[.bool (af y),.slice D ((lim (ab y)).length) d]] w h (fun v h1=>RQ h1 v (mkR x y)):=by
 have a:=(((sS g).aS Z).aS hD);obtain ⟨l,p,j⟩:=oZ x y H;obtain ⟨q,hq⟩:∃ q,q=N1 (ab x) (ab y):=⟨_,rfl⟩;rw[<-hq] at l p j
 have X:(lim q).length<=1:=gT (by rw[hq];exact OL _ (by unfold ab;omega)) I;refine go Tryz.func126 [(0,.agg #[.bool (af x),qS A ((lim (ab x)).length) c]),(1,.agg #[.bool (af y),qS D ((lim (ab y)).length) d])] rfl (aA (lA 2 26 ([.bool (af x),qS A ((lim (ab x)).length) c]) a (fun J w2 h3 a=>lA 3 26 ([.bool (af y),qS D ((lim (ab y)).length) d]) a (fun B w5 h6 a=>lA 4 28 cD a (fun b7 w8 h9 a=>aG (lL a [.v (qP J 1),.o (qS A ((lim (ab x)).length) c) 2 1 1,.v (qP B 1),.o (qS D ((lim (ab y)).length) d) 1 1 1] (lC 14 a (wF (ab x) A c M (ab y) D d U q hq oM oM _ _ a.g a.f.2.1 a.f.1) ?_)))))));rintro _ _ _ a ⟨O,L,rfl,K,Y⟩;replace a:=a.aS Y;refine lL a ac (aG (lL a [.v (qP J 1),.o (qS A ((lim (ab x)).length) c) 2 1 1,.c] (lC 19 a (mN (ab x) A c M q O L K oM oM j _ _ a.g a.f.r.1 a.f.1) ?_)));rintro _ _ _ a ⟨_,i,rfl,⟨Q,S,rfl,zl,zm⟩,-⟩;replace a:=a.aS zm;refine lL a [.c,.v (qS Q ((lim ((ab x)/q)).length) S),.v i,.c,.c] (aG (lL a [.v (qP B 1),.o (qS D ((lim (ab y)).length) d) 1 1 1,.c] (lC 26 a (mN (ab y) D d U q O L K oM oM j _ _ a.g a.f.r.1 a.f.2.1) ?_)));rintro _ _ _ a ⟨_,e,rfl,⟨u,z,rfl,V,zo⟩,-⟩;replace a:=a.aS zo;refine lL a [.c,.v (qS u ((lim ((ab y)/q)).length) z),.v e,.c,.c] (aG (lL a [.v (pB J),.o (.bool (af x)) 2 0 1,.v (pB B),.o (.bool (af y)) 1 0 1,.v (.bool ((af x) != (af y))),.c] (lC 35 a (rI ((af x) != (af y)) ((ab x)/q) Q S zl _ _ a.g a.f.2.1) ?_)));rintro _ _ _ a ⟨F,C,rfl,zp,zq⟩;replace a:=a.aS zq;exact lL a [.c,.v (.agg #[.bool (af (bD ((af x) != (af y)) ((ab x)/q))),qS F ((lim (ab (bD ((af x) != (af y)) ((ab x)/q)))).length) C,qS u ((lim ((ab y)/q)).length) z])] (lP 0 0 ([.bool (af (bD ((af x) != (af y)) ((ab x)/q))),qS F ((lim (ab (bD ((af x) != (af y)) ((ab x)/q)))).length) C,qS u ((lim ((ab y)/q)).length) z]) a (fun _ a=>ae a [(0,0,3)] (.agg #[.bool (af (bD ((af x) != (af y)) ((ab x)/q))),qS F ((lim (ab (bD ((af x) != (af y)) ((ab x)/q)))).length) C,qS u ((lim ((ab y)/q)).length) z]) (by unfold RQ;rw[l,p];exact ⟨_,_,_,_,rfl,zp,V,a.f.1,a.f.2.1⟩)))
theorem Cu (x y)(e:y≠0)(h0 : -(2^63)<=x)(h1:x<(2^63))(u : -(2^32)<y)(l:y<(2^32))(w h)(g:G w h):CR 81 #[iV x,iV y] w h (fun v h1=>RQ h1 v (mkR x y)):=by
 have a:=sS g;have F:=wI h0 h1;have H:=tL u l;refine go Tryz.func81 [(0,iV x),(1,iV y)] rfl (aA (lA 4 28 cD a (fun S w2 l a=>aG (lL a ac (lC 6 a (s7 x oM oM _ _ a.g) ?_)))));rintro _ U Q a ⟨O,L,rfl,c,d⟩;replace a:=a.aS d;refine lL a ac (lC 8 a (s7 y oM oM _ _ a.g) ?_);rintro _ _ _ a ⟨M,K,rfl,z,D⟩;replace a:=a.aS D;refine lC 9 a (Hs x O L c oM y M K z oM e _ _ a.g a.f.2.1 a.f.1) ?_;rintro _ _ _ a ⟨o,p,i,j,rfl,B,I,J,C⟩;replace a:=a.aP J C;exact lP 0 0 (iT (mkR x y) o p i j) a (fun _ a=>ae a [(0,0,3)] (rG (mkR x y) o p i j) (by skip;exact ⟨_,_,_,_,rfl,B,I,a.f.2.1,a.f.1⟩))
theorem JH (a A c)(j:(lim a).length<=c)(B:(lim a).length<=300000000)(w h)(g:G w h)(l:S3 A (lim a) h):CV 64 #[.slice A ((lim a).length) c] w h (nv a):=by
 have d:=((sS g).aS l);have i:=ur a;refine go Tryz.func64 [(0,qS A ((lim a).length) c)] rfl (aA (lA 2 44 ([uV 0,eS]) d (fun z w2 y d=>aG (lL d ac (lC 4 d (wW a A c j oM _ _ d.g d.f.1) ?_)))));rintro _ u x d ⟨o,rfl,e⟩;replace d:=d.aS e;exact ar 5 d (Cv a ((nb a+7)/8) o ((nb a+7)/8) (nR _) oM (Cp a) _ _ d.g d.f.1) (fun C p d=>lP 0 0 (nc a) d (fun _ d=>ae d [(0,0,2)] (nv a) rfl))
theorem LI (z A c)(i:(lim (ab z)).length<=c)(l:(lim (ab z)).length<=300000000)(w h)(g:G w h)(j:S3 A (lim (ab z)) h):CV 63 #[.agg #[.bool (af z),.slice A ((lim (ab z)).length) c]] w h (iv z):=by
 have a:=((sS g).aS j);have e:=FC (ab z);refine go Tryz.func63 [(0,.agg #[.bool (af z),qS A ((lim (ab z)).length) c])] rfl (aA (lA 1 26 ([.bool (af z),qS A ((lim (ab z)).length) c]) a (fun d w2 B a=>lA 2 46 ([qF,uV 0,eS]) a (fun o C y a=>ag (cR 6 [] mixed a ao ?_)))));exact eV 0 3 (pB d) (eO 1 4 [(1,0,1)] (.bool (af z)) a (eV 2 5 (qP d 1) (eO 3 6 [(1,1,1)] (qS A ((lim (ab z)).length) c) a (au 4 7 a (fun _ _ a=>JH (ab z) A c i (by first|exact l|exact LQ.ld hq|omega) _ _ a.g a.f.1) (fun x u a=>au 5 8 a (fun _ _ a=>gE (af z) (ab z) oM _ _ a.g) (fun p _ a=>bM a (fun _ _ a=>tP 6 0 0 (ic (bD (af z) (ab z))) a (fun _ a=>tN (kX (a.ret [(0,0,3)] (iv (bD (af z) (ab z))) (congrArg iv (nJ z))))))))))))
theorem Cb (q):mkR q.num ((q.den:Nat):Int)=q:=by
 unfold mkR;rw[if_neg oM];show mkRat q.num q.den=q;rw[OV]
theorem ML (q d c1 e c)(p:(lim (ab q.num)).length<=c1)(l:(lim q.den).length<=c)(i:LQ (10^8) q)(w h)(g:G w h)(j:S3 d (lim (ab q.num)) h)(u:S3 e (lim q.den) h)(B:Tab h):CV 27 #[rG q d c1 e c] w h (qv q):=by
 have a:=((((sS g).aS j).aS u).add (K:=fun C=>Tab C) B);refine go Tryz.func27 [(0,rG q d c1 e c)] rfl (aA (lA 1 28 (iT q d c1 e c) a (fun y w2 L a=>lA 2 48 a6 a (fun D M J a=>ag ?_))));have x:=a;exact cR 12 [⟨11,3,.cells (Oj [qF,uV 0,eS,uV 0,eS]) 48 (0,0)⟩] mixed a (bR (fS kR (fun _ _=>by kernel_rfl)) ao) (eV 0 6 (pB y) (eO 1 7 [(1,0,2)] (.agg #[.bool (af q.num),qS d ((lim (ab q.num)).length) c1]) a (eV 3 9 (qP y 2) (eO 4 10 [(1,2,1)] (qS e ((lim q.den).length) c) a (au 2 8 a (fun _ _ a=>LI q.num d c1 p (LQ.ln i) _ _ a.g a.f.r.1) (fun I H a=>au 5 11 a (fun _ _ a=>JH q.den e c l (by first|exact hl|exact LQ.ld i|omega) _ _ a.g a.f.2.1) (fun F _ a=>au 6 12 a (fun _ _ a=>fi q.den _ _ a.g) (fun _ _ a=>au 7 13 a (fun _ _ a=>Ji q.num (q.den:Int) (by have:=q.den_pos;omega) (by have:=i.1;omega) (by show (wds q.den).length<=_;have:=i.2;omega) _ _ a.g a.f.1) (fun _ _ a=>eV 8 5 (.tuple #[qv (mkR q.num (q.den:Int)),qT]) (eV 9 14 (qv (mkR q.num (q.den:Int))) (eV 10 15 qT (jh [] x a 48 [qF,uV 0,eS,uV 0,eS] (fun _ _ z a=>tP 12 0 0 (qc (mkR q.num (q.den:Int))) a (fun _ a=>tV 13 4 qT (rm (lL a [.o (qv (mkR q.num (q.den:Int))) 0 0 5] (lP 1 0 (qc (mkR q.num (q.den:Int))) a (fun _ a=>ae a [(1,0,5)] (qv (mkR q.num (q.den:Int))) (congrArg qv (Cb q))))))))))))))))))))
theorem Kh (v q)(f:LQ (10^8) q)(w h)(g:G w h)(hv:RQ h v q)(j:Tab h):CV 27 #[v] w h (qv q):=by
 obtain ⟨A,c,B,d,rfl,h1,e,i,a⟩:=hv;exact ML q A c B d h1 e f w h g i a j
theorem vy (n)(B:(wds n).length<=(10^8))(w h)(g:G w h):CR 181 #[nv n] w h (fun v h1=>RN h1 v n):=by
 have a:=sS g;have d:=mZ n;refine go Tryz.func181 [(0,nv n)] rfl (aA (lA 1 44 (nc n) a (fun z w2 y a=>lL a ac (aG (lL a [.o (nv n) 0 0 2] (lC 4 a (Cz n oM _ _ a.g) ?_))))));rintro _ u x a ⟨p,rfl,c⟩;replace a:=a.aS c;refine lC 5 a (Cl n ((nb n+7)/8) p ((nb n+7)/8) (nR _) oM (Cp n) _ _ a.g a.f.1) ?_;rintro _ _ _ a ⟨e,i,rfl,j,l⟩;replace a:=a.aS l;exact lL a ac (ae a [] (qS e ((lim n).length) i) (⟨_,_,rfl,j,a.f.1⟩))
theorem EK (z):bD (decide (z.sign<(0:Int))) (ab z)=z:=by
 rcases Oq z 0 with h|h|h
 ·rw[Ot h];unfold bD ab;simp;omega
 ·subst h;rfl
 ·rw[Ou h];unfold bD ab;simp;omega
theorem DT (z)(I:(wds (ab z)).length<=(10^8))(w h)(g:G w h):CR 179 #[iv z] w h (fun v h1=>RI h1 v z):=by
 have a:=sS g;refine go Tryz.func179 [(0,iv z)] rfl (aA (lA 1 46 (ic z) a (fun H w2 D a=>lA 2 26 ([qF,sZ]) a (fun u F C a=>ag (cR 7 [] mixed a ao ?_)))));refine eO 0 3 [(1,0,3)] (iv z) a (eO 3 6 [(1,0,3)] (iv z) a (au 1 4 a (fun _ _ a=>ne z oM _ _ a.g) (fun B x a=>eV 2 5 (.bool (decide ((z.sign:Int)<(0:Int)))) (au 4 7 a (fun _ _ a=>Dc z _ _ a.g) (fun y _ a=>eC 5 8 a (fun _ _ a=>vy (ab z) (by first|exact hq.2|omega) _ _ a.g) ?_)))));rintro _ _ _ _ _ a ⟨l,p,rfl,e,j⟩;replace a:=a.aS j;refine eC 6 9 a (fun _ _ a=>rI (decide ((z.sign:Int)<(0:Int))) (ab z) l p e _ _ a.g a.f.1) ?_;rintro _ _ _ _ _ a ⟨c,d,rfl,i,o⟩;replace a:=a.aS o;exact bM a (fun _ _ a=>tP 7 0 0 ([.bool (af (bD (decide ((z.sign:Int)<(0:Int))) (ab z))),qS c ((lim (ab (bD (decide ((z.sign:Int)<(0:Int))) (ab z)))).length) d]) a (fun _ a=>tN (kX (a.ret [(0,0,2)] (.agg #[.bool (af (bD (decide ((z.sign:Int)<(0:Int))) (ab z))),qS c ((lim (ab (bD (decide ((z.sign:Int)<(0:Int))) (ab z)))).length) d]) (by rw[EK] at *;exact ⟨_,_,rfl,i,a.f.1⟩)))))
theorem Ll (q)(d:LQ (10^8) q)(w h)(g:G w h):CR 136 #[qv q] w h (fun v h1=>RQ h1 v q):=by
 have a:=sS g;refine go Tryz.func136 [(0,qv q)] rfl (aA (lA 1 48 (qc q) a (fun F w2 C a=>lA 2 28 cD a (fun x D B a=>ag (cR 7 [] mixed a ao ?_)))));refine eO 0 3 [(1,0,5)] (qv q) a (eO 3 6 [(1,0,5)] (qv q) a (au 1 4 a (fun _ _ a=>LU q _ _ a.g) (fun z y a=>eC 2 5 a (fun _ _ a=>DT q.num d.1 _ _ a.g) ?_)));rintro _ _ _ _ _ a ⟨i,e,rfl,o,l⟩;replace a:=a.aS l;refine au 4 7 a (fun _ _ a=>fy q d _ _ a.g) (fun _ _ a=>eC 5 8 a (fun _ _ a=>vy q.den (by first|exact d.2|omega) _ _ a.g) ?_);rintro _ _ _ _ _ a ⟨j,c,rfl,u,p⟩;replace a:=a.aS p;exact eV 6 9 (rG q i e j c) (bM a (fun _ _ a=>tP 7 0 0 (iT q i e j c) a (fun _ a=>tN (kX (a.ret [(0,0,3)] (rG q i e j c) (⟨_,_,_,_,rfl,o,u,a.f.2.1,a.f.1⟩))))))
def ie (a b:Rat):Bool:=decide (a=b)
theorem FT {a b:Rat}(h1:bY (ab a.num) (ab b.num)=0)(d:af a.num=af b.num)(c:bY a.den b.den=0):true=ie a b:=by
 have f:ab a.num=ab b.num:=by unfold bY at h1;split at h1;omega;split at h1;omega;omega
 have h:a.den=b.den:=by unfold bY at c;split at c;omega;split at c;omega;omega
 have e:a.num=b.num:=by rw[<-nJ a.num,<-nJ b.num,f,d]
 symm
 exact decide_eq_true (Rat.ext e h)
theorem oK (a):bY a a=0:=by simp[bY]
theorem pT {a b:Rat}(h:bY (ab a.num) (ab b.num)≠0\/af a.num≠af b.num\/bY a.den b.den≠0):false=ie a b:=by
 symm
 refine decide_eq_false ?_;rintro rfl
 rcases h with h|h|h
 ·exact h (oK _)
 ·exact h rfl
 ·exact h (oK _)
theorem FY (q r)(F:LQ (10^8) q)(hr:LQ (10^8) r)(j c1 e d)(K:(lim (ab r.num)).length<=c1)(J:(lim r.den).length<=d)(w h)(g:G w h)(D:S3 j (lim (ab r.num)) h)(L:S3 e (lim r.den) h):CV 80 #[qv q,rG r j c1 e d] w h (.bool (ie q r)):=by
 have a:=(((sS g).aS D).aS L);have p:0<(lim r.den).length:=bV.2 r.den_pos;have Q:=LQ.ln F;have Z:=LQ.ld F;have S:=LQ.ln hr;have X:=LQ.ld hr;refine go Tryz.func80 [(0,qv q),(1,rG r j c1 e d)] rfl (aA (lA 2 48 (qc q) a (fun b1 w2 h3 a=>lA 3 28 (iT r j c1 e d) a (fun i w5 h6 a=>lL a ac (aG (lL a [.o (qv q) 1 0 5] (lC 7 a (Ll q F _ _ a.g) ?_)))))));rintro _ _ _ a ⟨I,C,B,y,rfl,H,U,zl,Y⟩;replace a:=a.aP zl Y;refine lA 5 28 cD a (fun l _ _ a=>lP 0 0 (iT q I C B y) a (fun _ a=>ag (aa a [.v (qP i 2),.o (qS e ((lim r.den).length) d) 1 2 1,.v (nV ((lim r.den).length))] ?_)));have O:((((lim r.den).length:Nat):Int) == (0:Int))=false:=(by simp;exact fun h=>Nat.lt_irrefl 0 (by rw[h] at p;exact p));have z:=aj O;refine lB 11 O (ah (cK (aa a [.v (pB l),.v (qP l 1),.o (qS I ((lim (ab q.num)).length) C) 0 1 1,.v (pB i),.v (qP i 1),.o (qS j ((lim (ab r.num)).length) c1) 1 1 1] (ar 19 a (iG (ab q.num) I C H (ab r.num) j c1 K oM oM _ _ a.g a.f.2.1 a.f.r.2.1) (fun _ _ a=>?_)))));cases u:((bY (ab q.num) (ab r.num):Int) == (0:Int))
 .
  have V:=aj u;refine lB 20 u (lL a ac (lG 22 ?_));refine lG 23 (lG 24 (lG 25 (lG 26 (lG 27 (lG 28 (lL a [.v qF,.c] (lG 31 ?_)))))));exact lG 32 (lG 33 (lG 34 (lG 35 (lG 36 (lL a [.v qF,.c] (ae a [] qF (congrArg Value.bool (pT (by first|(left;assumption)|(right;right;assumption)|(right;left;exact beq_eq_false_iff_ne.1 ‹_›))))))))))
 have V:=eq_of_beq u;refine lB 20 u (lL a [.c,.v (pB l),.v (pB l),.o (.bool (af q.num)) 0 0 1,.v (pB i),.v (pB i),.o (.bool (af r.num)) 1 0 1] ?_);cases M:((af q.num) == (af r.num))
 .
  refine lB 28 M (lL a [.v qF,.c] (lG 31 ?_));exact lG 32 (lG 33 (lG 34 (lG 35 (lG 36 (lL a [.v qF,.c] (ae a [] qF (congrArg Value.bool (pT (by first|(left;assumption)|(right;right;assumption)|(right;left;exact beq_eq_false_iff_ne.1 ‹_›))))))))))
 refine lB 28 M (lL a [.v qT,.c,.v (qP l 2),.o (qS B ((lim q.den).length) y) 0 2 1,.v (qP i 2),.o (qS e ((lim r.den).length) d) 1 2 1] (ar 35 a (iG q.den B y U r.den e d J oM oM _ _ a.g a.f.1 a.f.r.1) (fun _ _ a=>?_)));cases x:((bY q.den r.den:Int) == (0:Int))
 .
  have W:=aj x;exact lB 36 x (lL a [.v qF,.c] (ae a [] qF (congrArg Value.bool (pT (by first|(left;assumption)|(right;right;assumption)|(right;left;exact beq_eq_false_iff_ne.1 ‹_›))))))
 have W:=eq_of_beq x;exact lB 36 x (lL a [.v qT,.c] (ae a [] qT (congrArg Value.bool (FT aM (eq_of_beq ‹_›) aM))))
theorem LQ.mkR {n d:Int}(j:d≠0)(h0 : -(2^63)<=n)(h1:n<=(2^63-1))(h : -(2^63)<=d)(l:d<=(2^63-1)):LQ 1 (mkR n d):=by
 unfold Go.Proofs.YtjljjeiejbhegaaGreatDoor.mkR;have a:0<ab d:=by unfold ab;omega
 obtain ⟨f,c,e,i⟩:=jd (if d<0 then -n else n) (ab d) a;refine ⟨?_,?_⟩
 ·rw[f];refine dj.2 (H1 (cl _ _ e) ?_)
  unfold ab;split<;>omega
 ·rw[c];exact dj.2 (H1 (L2 _ _) (by unfold ab;omega))
theorem oW (q z e)(p:LQ (10^8) q)(D:e≠0)(i : -(2^63)<=z)(F:z<(2^63))(o : -(2^32)<e)(C:e<(2^32))(w h)(g:G w h):CV 36 #[qv q,iV z,iV e] w h (.bool (ie q (mkR z e))):=by
 have a:=sS g;have l:LQ (10^8) (mkR z e):=(LQ.mkR D i oM oM oM).mono oM;refine go Tryz.func36 [(0,qv q),(1,iV z),(2,iV e)] rfl (aA (lA 3 48 (qc q) a (fun J w2 I a=>lL a ac (ag (cR 5 [] mixed a ao ?_)))));refine eO 0 7 [(0,0,5)] (qv q) a (eV 1 8 (iV z) (eV 2 9 (iV e) (eC 3 10 a (fun _ _ a=>Cu z e oM oM oM oM oM _ _ a.g) ?_)));rintro _ _ _ _ _ a ⟨H,y,j,u,rfl,c,x,d,B⟩;replace a:=a.aP d B;exact au 4 11 a (fun _ _ a=>FY q (mkR z e) p l H y j u c x _ _ a.g a.f.2.1 a.f.1) (fun _ _ a=>bM a (fun _ _ a=>tV 5 6 (.bool (ie q (mkR z e))) (tN (kX (a.ret [] (.bool (ie q (mkR z e))) rfl)))))
def az (n:Int)(m:Nat):Nat:=(n%(m:Int)).toNat
theorem cY (n m)(h:0<m):az n m<m:=by
 unfold az;have h1:=OX n (show (m:Int)≠0 by omega);have a:=OY n (show (0:Int)<m by omega)
 omega
theorem sb (n m)(h:0<m):((az n m:Nat):Int)=n%(m:Int):=by
 unfold az;have h1:=OX n (show (m:Int)≠0 by omega)
 omega
theorem rP (n:Int)(m:Nat)(c:0<m)(hn:n<0):(n%(m:Int)=0/\n.tmod (m:Int)=0)\/(0<n%(m:Int)/\n.tmod (m:Int)=n%(m:Int)-m):=by
 have e:=OX n (show (m:Int)≠0 by omega);rw[Int.tmod_eq_emod]
 by_cases h:(m:Int)∣n
 ·left
  rw[if_pos (.inr h)];have:=Int.emod_eq_zero_of_dvd h;exact ⟨this,by omega⟩
 ·right
  have d:¬(n%(m:Int)=0):=fun a=>h (Int.dvd_of_emod_eq_zero a)
  rw[if_neg (by intro a;rcases a with a|a;omega;exact h a)];refine ⟨by omega,by simp⟩
def qK (k:Nat):Nat:=match k with|0=>1|1=>1|2=>1|3=>2|4=>3|_=>4
theorem qQ (k):0<qK k:=by unfold qK;split<;>omega
theorem uy (k):qK k<=4:=by unfold qK;split<;>omega
def dZ (n:Int):Rat:=mkR ((az n 41:Int)-20) (qK (az (n.tdiv 41) 6):Nat)
def HN (n:Int):Rat:=mkR ((az n 9:Int)-4) (((az (n.tdiv 9) 2:Nat):Int)+1)
theorem wl (n m)(d:1<m)(c : -(2^63)<=n)(a:n<=(2^63-1)): -(2^63)<=n.tdiv m/\n.tdiv m<=(2^63-1):=by
 have h1:(n.tdiv m).natAbs<=n.natAbs/2:=by
  rw[Int.natAbs_tdiv];exact Nat.div_le_div_left oM oM
 omega
theorem C3 {n:Int}{m:Nat}(a:0<m)(h:n.tmod (m:Int)<0):n.tmod (m:Int)+m=((az n m:Nat):Int):=by
 rw[sb n m a];rcases OZ n 0 with hn|hn
 ·rcases rP n m a hn with ⟨h1,h2⟩|⟨h1,h2⟩<;>omega
 ·rw[O0 hn] at h
  have:=OX n (show (m:Int)≠0 by omega)
  omega
theorem xu {n:Int}{m:Nat}(a:0<m)(h:¬n.tmod (m:Int)<0):n.tmod (m:Int)=((az n m:Nat):Int):=by
 rw[sb n m a];rcases OZ n 0 with hn|hn
 ·rcases rP n m a hn with ⟨h1,h2⟩|⟨h1,h2⟩
  ·omega
  ·have:=OY n (show (0:Int)<m by omega)
   omega
 ·rw[O0 hn]
theorem D9 (n:Int){m:Nat}(c:0<m): -(m:Int)<n.tmod (m:Int)/\n.tmod (m:Int)<m:=by
 have h1:=Int.tmod_lt_of_pos n (show (0:Int)<m by omega);have a:=Int.lt_tmod_of_pos n (show (0:Int)<m by omega);exact ⟨a,h1⟩
theorem fh (n:Int)(m)(f:0<m)(i:m<1000000)(w h)(g:G w h):CV 14 #[iV n,nV m] w h (nV (az n m)):=by
 have c:=sS g;obtain ⟨l,j⟩:=D9 n f;refine go Tryz.func14 [(0,iV n),(1,nV m)] rfl (aa c ac (aG (lL c ax (lV 7 (iV (n.tmod (m:Nat))) ?_ (hr:=fP (t:=3) (u:=3) (x:=.tmp 5) (y:=.tmp 6) (k:=.i64) (a:=n) (b:=(m:Nat)) kR kR kR oM _)))));refine lL c ac (ag (aa c ac ?_));cases d:(decide ((n.tmod (m:Nat):Int)<(0:Int)))
 .
  have e:=oF d;exact lB 9 d (ah (cK (aa c ax (ae c [] (iV (n.tmod (m:Nat))) (congrArg (Value.int .i64) (xu f aM))))))
 have e:=oT d;refine lB 9 d (ak (kQ (lL c ax (lI 12 ((n.tmod (m:Nat))+(m:Nat)) ?_))));exact lL c ac (aG (lL c ax (ae c [] (iV ((n.tmod (m:Nat))+(m:Nat))) (congrArg (Value.int .i64) (C3 f aM)))))
theorem xJ (w):(Instr.index 155 (.agg #[.int .i64 1,.int .i64 1,.int .i64 1,.int .i64 2,.int .i64 3,.int .i64 4]) (.int .i64 0)).run Tryz.prog w=.ok (.int .i64 1) w:=by kernel_rfl
theorem C0 (w):(Instr.index 155 (.agg #[.int .i64 1,.int .i64 1,.int .i64 1,.int .i64 2,.int .i64 3,.int .i64 4]) (.int .i64 1)).run Tryz.prog w=.ok (.int .i64 1) w:=by kernel_rfl
theorem xU (w):(Instr.index 155 (.agg #[.int .i64 1,.int .i64 1,.int .i64 1,.int .i64 2,.int .i64 3,.int .i64 4]) (.int .i64 2)).run Tryz.prog w=.ok (.int .i64 1) w:=by kernel_rfl
theorem Ad (w):(Instr.index 155 (.agg #[.int .i64 1,.int .i64 1,.int .i64 1,.int .i64 2,.int .i64 3,.int .i64 4]) (.int .i64 3)).run Tryz.prog w=.ok (.int .i64 2) w:=by kernel_rfl
theorem xQ (w):(Instr.index 155 (.agg #[.int .i64 1,.int .i64 1,.int .i64 1,.int .i64 2,.int .i64 3,.int .i64 4]) (.int .i64 4)).run Tryz.prog w=.ok (.int .i64 3) w:=by kernel_rfl
theorem CU (w):(Instr.index 155 (.agg #[.int .i64 1,.int .i64 1,.int .i64 1,.int .i64 2,.int .i64 3,.int .i64 4]) (.int .i64 5)).run Tryz.prog w=.ok (.int .i64 4) w:=by kernel_rfl
theorem ID (k:Nat)(h:k<6)(w:World):(Instr.index 155 (.agg #[.int .i64 1,.int .i64 1,.int .i64 1,.int .i64 2,.int .i64 3,.int .i64 4]) (.int .i64 (k:Int))).run Tryz.prog w=.ok (.int .i64 ((qK k:Nat):Int)) w:=by
 have:k=0\/k=1\/k=2\/k=3\/k=4\/k=5:=by omega
 rcases this with rfl|rfl|rfl|rfl|rfl|rfl
 ·exact xJ w
 ·exact C0 w
 ·exact xU w
 ·exact Ad w
 ·exact xQ w
 ·exact CU w
theorem Lk {Γ:cC}{o:Oper}{x y:Operand}(k:Nat)(h:k<6)(a:o.op=.index 155 x y)(d:ev Γ x=.agg #[.int .i64 1,.int .i64 1,.int .i64 1,.int .i64 2,.int .i64 3,.int .i64 4])(c:ev Γ y=.int .i64 (k:Nat))(w:World) :
  (execOp (ev Γ) o).run Tryz.prog w=.ok (.value (.int .i64 (qK k:Nat))) w:=by
 unfold execOp;simp only[a];rw[d,c,Sem.run_bind,ID k h w];rfl
theorem hR (n)(h0 : -(2^63)<=n)(h1:n<=(2^63-1))(w h)(g:G w h):CR 42 #[iV n] w h (fun v h1=>RQ h1 v (dZ n)):=by
 have a:=sS g;obtain ⟨H,Q⟩:=wl n 41 oM h0 h1;have C:=cY n 41 oM;have l2:=cY (n.tdiv 41) 6 oM;have M:=qQ (az (n.tdiv 41) 6);have I:=uy (az (n.tdiv 41) 6);refine go Tryz.func42 [(0,iV n)] rfl (aA (lA 2 28 cD a (fun O w2 K a=>aG (lL a ac (ar 4 a (fh (n) 41 oM oM _ _ a.g) (fun L J a=>?_))))));have p:=cY (n) 41 oM;refine lI 5 ((az (n) 41:Nat)-20) (lL a [.v (.agg #[iV 1,iV 1,iV 1,iV 2,iV 3,iV 4]),.c] (lV 8 (iV (n.tdiv 41)) ?_ (hr:=rS ((n.tdiv 41)) kR (pn oM oM))));refine ar 9 a (fh (n.tdiv 41) 6 oM oM _ _ a.g) (fun F D a=>?_);have u:=cY (n.tdiv 41) 6 oM;refine lV 10 (nV (qK (az (n.tdiv 41) 6))) ?_ (hr:=Lk (x:=.tmp 6) (y:=.tmp 9) (az (n.tdiv 41) 6) l2 kR kR kR _);refine lC 11 a (Cu ((az (n) 41:Nat)-20) (qK (az (n.tdiv 41) 6):Nat) oM oM oM oM oM _ _ a.g) ?_;rintro _ _ _ a ⟨i,j,d,e,rfl,l,z,o,B⟩;replace a:=a.aP o B;exact lP 0 0 (iT (dZ n) i j d e) a (fun _ a=>ae a [(0,0,3)] (rG (dZ n) i j d e) (⟨_,_,_,_,rfl,l,z,a.f.2.1,a.f.1⟩))
theorem LQ.hand (n):LQ 1 (dZ n):=by
 unfold dZ;have a:=cY n 41 oM;have d:=qQ (az (n.tdiv 41) 6);have c:=uy (az (n.tdiv 41) 6);exact LQ.mkR oM oM oM oM oM
abbrev RT:=Bool × Value × Value
def eA (t:RT):List Value:=[.bool t.1,t.2.1,t.2.2]
def gV:RT:=(false,undef,undef)
abbrev rA (t:RT):Value:=.agg #[.bool t.1,t.2.1,t.2.2]
abbrev Sr (A:Z9)(l:List RT):Hp->Prop:=fun h_=>SlO 3 eA gV h_ A l
def wA (t:RT):Value:=.agg #[.bool t.1,t.2.1,t.2.2]
structure RTs (h:Hp) (ts:List RT) (qs:List Rat):Prop where
  len:ts.length=qs.length
  at_:∀ i,i<qs.length->RQ h (wA (ts.getD i gV)) (qs.getD i 0)
abbrev Rt (t:List RT)(l:List Rat):Hp->Prop:=fun h_=>RTs h_ t l
theorem RTs.gw {h c:Hp}{d:List RT}{a:List Rat}(r:RTs h d a)(u:Gw h c):RTs c d a:=⟨r.len,fun i hi=>(r.at_ i hi).gw u⟩
theorem SS.aT {t:List RT}{l:List Rat}{w0 w:World}{h0 h:Hp}{B:List Bx}{R:List Rw}{F:List (Hp->Prop)}(s:SS w0 h0 w h B R F)(p:RTs h t l):SS w0 h0 w h B R (Rt t l::F):=s.add (K:=Rt t l) p
theorem RTs.nil {h:Hp}:RTs h [] []:=⟨rfl,fun i hi=>by simp at hi⟩
theorem dW {α:Type}(l:List α)(x d:α)(i):(l++[x]).getD i d=if i<l.length then l.getD i d else if i=l.length then x else d:=by
 split
 ·rename_i h;simp[List.getElem?_append_left h]
 ·rename_i h
  split
  ·rename_i a;subst a;simp
  ·rename_i a;simp[ua (show (l++[x]).length<=i by simp;omega)]
theorem RTs.snoc {h:Hp}{c:List RT}{a:List Rat}(r:RTs h c a){t:RT}{q:Rat}(d:RQ h (wA t) q):RTs h (c++[t]) (a++[q]):=by
 refine ⟨by simp[r.len],fun i hi=>?_⟩;rw[dW,dW,r.len]
 split
 ·rename_i h1;exact r.at_ i h1
 ·rename_i h1
  have:i=a.length:=by simp at hi;omega
  rw[if_pos this,if_pos this];exact d
theorem mK {α:Type}{l:List α}{k:Nat}(d:α)(h:k<l.length):l.take (k+1)=l.take k++[l.getD k d]:=by
 rw[List.take_add_one];simp[h]
def vc (v:Value):List Value:=[v]
abbrev Sv (A:Z9)(l:List Value):Hp->Prop:=fun h_=>SlO 1 vc undef h_ A l
def n8 (zs:List Int):Nat->List Rat
  | 0=>[]
  | k+1=>n8 zs k++[if k<zs.length then dZ (zs.getD k 0) else 0]
theorem n5 (a:List Int)(k):(n8 a k).length=k:=by induction k with|zero=>rfl|succ k ih=>simp[n8,ih]
def p7 (zs:List Int):Prop:=∀ k,-9223372036854775808<=zs.getD k 0/\zs.getD k 0<=9223372036854775807
structure RVs (h:Hp) (vs:List Value) (qss:List (List Rat)):Prop where
  len:vs.length=qss.length
  at_:∀ i,i<qss.length->∃ A cap,∃ ts:List RT,vs.getD i undef=.slice A ts.length cap/\ts.length<=cap/\SlO 3 eA gV h A ts/\RTs h ts (qss.getD i [])
abbrev Ru (t:List Value)(l:List (List Rat)):Hp->Prop:=fun h_=>RVs h_ t l
theorem RVs.gw {h d:Hp}{vs:List Value}{a:List (List Rat)}(r:RVs h vs a)(u:Gw h d):RVs d vs a:=⟨r.len,fun i hi=>by
 obtain ⟨A,c,j,h1,f,l,e⟩:=r.at_ i hi;exact ⟨A,c,j,h1,f,l.gw u,e.gw u⟩⟩
theorem SS.aV {t:List Value}{l:List (List Rat)}{w0 w:World}{h0 h:Hp}{B:List Bx}{R:List Rw}{F:List (Hp->Prop)}(s:SS w0 h0 w h B R F)(p:RVs h t l):SS w0 h0 w h B R (Ru t l::F):=s.add (K:=Ru t l) p
structure QVs (h:Hp) (vs:List Value) (qss:List (List Rat)):Prop where
  len:vs.length=qss.length
  at_:∀ i,i<qss.length->SlV 5 qc 0 h (vs.getD i undef) (qss.getD i [])
abbrev Qu (t:List Value)(l:List (List Rat)):Hp->Prop:=fun h_=>QVs h_ t l
theorem QVs.gw {h c:Hp}{vs:List Value}{a:List (List Rat)}(r:QVs h vs a)(u:Gw h c):QVs c vs a:=⟨r.len,fun i hi=>(r.at_ i hi).gw u⟩
theorem SS.aQ {t:List Value}{l:List (List Rat)}{w0 w:World}{h0 h:Hp}{B:List Bx}{R:List Rw}{F:List (Hp->Prop)}(s:SS w0 h0 w h B R F)(p:QVs h t l):SS w0 h0 w h B R (Qu t l::F):=s.add (K:=Qu t l) p
theorem RVs.nil {h:Hp}:RVs h [] []:=⟨rfl,fun i hi=>by simp at hi⟩
theorem RVs.snoc {h:Hp}{vs:List Value}{a:List (List Rat)}(r:RVs h vs a){v:Value}{l:List Rat}(hv:∃ A cap,∃ ts:List RT,v=.slice A ts.length cap/\ts.length<=cap/\SlO 3 eA gV h A ts/\RTs h ts l):RVs h (vs++[v]) (a++[l]):=by
 refine ⟨by simp[r.len],fun i hi=>?_⟩;rw[dW,dW,r.len]
 split
 ·rename_i h1;exact r.at_ i h1
 ·rename_i h1
  have:i=a.length:=by simp at hi;omega
  rw[if_pos this,if_pos this];exact hv
theorem pd {c:List Int}{k:Nat}{q:Rat}(e:(if k<c.length then dZ (c.getD k 0) else 0)=q){a:List RT}{d:Hp}(f:RTs d a (n8 c k++[q])):RTs d a (n8 c (k+1)):=by
 show RTs d a (n8 c k++[_]);rw[e];exact f
theorem qD (a:List Int):∀ n i,LQ 1 ((n8 a n).getD i 0)
  | 0,i=>LQ.lit (z:=0) kD
  | n + 1,i=>by
    show LQ 1 ((n8 a n++[_]).getD i 0)
    rw[dW];split
    . exact qD a n i
    . split
      . split
        . exact LQ.hand _
        . exact LQ.lit (z:=0) kD
      . exact LQ.lit (z:=0) kD
theorem lZ {h:Hp}{A D:Z9}{c d:Nat}{q:Rat}(h1:(lim (ab q.num)).length<=c)(e:(lim q.den).length<=d)(f:SlO 1 a8 0 h A (lim (ab q.num)))(a:SlO 1 a8 0 h D (lim q.den)):RQ h (wA ((af q.num,.slice A (lim (ab q.num)).length c,.slice D (lim q.den).length d):RT)) q:=⟨_,_,_,_,rfl,h1,e,f,a⟩
theorem I5 (A o j d)(hl:d.length<=1000000)(hf:∀ i,i<d.length->LQ (10^8) (d.getD i 0))(w h)(g:G w h)(U:Sr A j h)(J:RTs h j d)(S:Tab h):CR 10 #[.slice A j.length o] w h (fun v h1=>SlV 5 qc 0 h1 v d):=by
 have a:=((((sS g).aS U).aT J).add (K:=fun z=>Tab z) S);have H:=(a.f.2.1).len;refine go Tryz.func10 [(0,qS A j.length o)] rfl (aa a ac (aG (lL a ac (ag (aa a ac (aZ ?_))))));replace a:=a.nil 48 5;refine bH _ (CG.loop (fun F Γ Q=>∃ (k:Nat)(y:Z9)(x:Nat)(e:List Rat)(z:Hp),F=d.length-k/\Γ=[(0,qS A j.length o),(2,sZ),(4,nV k),(3,qS y ((e).length) x)]/\SS w h Q z [] [⟨48,5,y,x,(e).length,(e).flatMap qc⟩] [fun z=>Tab z,Rt j d,Sr A j]/\k<=d.length/\e=d.take k) _ ⟨0,none,0,[],h,rfl,rfl,a.to _ _,NY _,rfl⟩ ?_);rintro _ _ w1 ⟨k,y,x,e,Y,L,rfl,a,hk,u⟩;have X:e.length=k:=by rw[u];simp;omega
 refine cQ (aa a [.c,.c,.v (nV j.length)] ?_);cases p:(decide ((k:Int)<(j.length:Int)))
 .
  have B:=oF p;refine lB 8 p (ah (CG.exit ?_))
  show CG _ _ _ _ _ _ _ _
  refine aa a ax (lN (kX ?_));have D:e=d:=by rw[u];exact Nj oM
  subst D;obtain ⟨h5,a,C⟩:=a.pubr 0 (A:=y) (c:=x) (l:=e) (f:=qc) (ty:=48) (sz:=5) 0 (fun _=>rfl);exact a.ret [] (qS y ((e).length) x) (⟨_,_,rfl,C,a.f.1⟩)
 have B:=oT p;refine lB 8 p (ak (cK (cQ (kZ (kQ (lL a cG (lX 14 A j.length o 3 (k:Nat) k ((a.f.r.1).ok oM) ?_)))))));refine lH 15 (rA (j.getD k gV)) a ((a.f.r.1).el k oM) (ar 16 a (Kh _ (d.getD k 0) (hf k oM) _ _ a.g ((a.f.2.1).at_ k oM) a.f.1) (fun w8 h9 a=>lR 17 48 1 (qc (d.getD k 0)) a (fun V _ _ a=>lY 18 0 48 5 x y e qc (d.getD k 0) 56 V cA a a.f.1 (fun W I _ M a=>lL a ac (lN (kQ (lL a ac (bw 10 ((k:Nat)+1) (k+1) ?_))))))));refine lL a ac (lD ?_);intro Z O;replace a:=a.tl;refine ⟨_,_,?_,⟨k+1,W,I,e++[d.getD k 0],M,rfl,rfl,a.to _ _,oM,(by rw[mK 0 oM,u])⟩,O.to _ kR⟩
 omega
theorem Jm (A i)(d:List Int)(n)(hn:n<=1000000)(hl:d.length<=(2^63-1))(hz:p7 d)(w h)(g:G w h)(hA:Si A d h):CR 20 #[.slice A d.length i,nV n] w h (fun v h1=>∃ A c,∃ e:List RT,v=.slice A e.length c/\e.length<=c/\Sr A e h1/\RTs h1 e (n8 d n)):=by
 have a:=((sS g).aS hA);refine go Tryz.func20 [(0,qS A d.length i),(1,nV n)] rfl (aa a ac (aG (lL a ac (ag (aa a ac (aZ ?_))))));replace a:=a.nil 28 3;replace a:=a.aT (RTs.nil);refine bH _ (CG.loop (fun S Γ Y=>∃ (k:Nat)(u:Z9)(p:Nat)(e:List RT)(h_:Hp),S=n-k/\Γ=[(0,qS A d.length i),(1,nV n),(4,sZ),(6,nV k),(5,qS u ((e).length) p)]/\SS w h Y h_ [] [⟨28,3,u,p,(e).length,(e).flatMap eA⟩] [Rt e (n8 d k),Si A d]/\k<=n) _ ⟨0,none,0,[],h,rfl,rfl,a.to _ _,NY _⟩ ?_);rintro _ _ w1 ⟨k,u,p,e,h2,V,rfl,a,hk⟩;have F:=(a.f.1).len;rw[n5] at F
 refine cQ (aa a ax ?_);cases o:(decide ((k:Int)<(n:Int)))
 .
  have x:=oF o;refine lB 9 o (ah (CG.exit ?_))
  show CG _ _ _ _ _ _ _ _
  refine aa a ax (lN (kX ?_));have J:k=n:=by omega
  subst J;obtain ⟨h5,a,I⟩:=a.pubr 0 (A:=u) (c:=p) (l:=e) (f:=eA) (ty:=28) (sz:=3) gV (fun _=>rfl);exact a.ret [] (qS u ((e).length) p) (⟨_,_,e,rfl,I,a.f.1,a.f.2.1⟩)
 have x:=oT o;refine lB 9 o (ak (cK (cQ (kZ (aa a [.c,.c,.v (nV d.length)] ?_)))));cases j:(decide ((k:Int)<(d.length:Int)))
 .
  have y:=oF j;refine lB 15 j (ah (kQ (lL a ac (lC 25 a (ud 0 oM oM _ _ a.g) ?_))));rintro _ _ _ a ⟨C,B,D,z,rfl,zi,zj,Z,zl⟩;replace a:=a.aP Z zl;refine lR 26 28 1 (iT ((0:Int):Rat) C B D z) a (fun zq _ _ a=>lY 27 0 28 3 p u e eA ((af ((0:Int):Rat).num,qS C ((lim (ab ((0:Int):Rat).num)).length) B,qS D ((lim ((0:Int):Rat).den).length) z):RT) 56 zq (.agg #[qF,sZ,sZ]) a a.f.1 (fun zr zt _ zu a=>lL a ac (lN (kQ (lL a ac (bw 11 ((k:Nat)+1) (k+1) ?_))))));refine lL a ac (lD ?_);intro W O;replace a:=(a.tl.tl.tl.tl.add (K:=Rt (e++[((af ((0:Int):Rat).num,qS C ((lim (ab ((0:Int):Rat).num)).length) B,qS D ((lim ((0:Int):Rat).den).length) z):RT)]) (n8 d (k+1))) (pd ((if_neg oM).trans (show (0:Rat)=((0:Int):Rat) from rfl)) (RTs.snoc a.f.r.2.1 (lZ zi zj a.f.r.1 a.f.2.1))));refine ⟨_,_,?_,⟨k+1,zr,zt,e++[((af ((0:Int):Rat).num,qS C ((lim (ab ((0:Int):Rat).num)).length) B,qS D ((lim ((0:Int):Rat).den).length) z):RT)],zu,rfl,rfl,a.to _ _,oM⟩,O.to _ kR⟩
  omega
 have y:=oT j;refine lB 15 j (ak (kQ (lL a cG (lX 19 A d.length i 1 (k:Nat) k ((a.f.2.1).ok oM) ?_))));refine lH 20 (iV (d.getD k 0)) a ((a.f.2.1).el k oM) (lC 21 a (hR (d.getD k 0) (hz k).1 (hz k).2 _ _ a.g) ?_);rintro _ _ _ a ⟨L,H,Q,M,rfl,zm,U,zo,zp⟩;replace a:=a.aP zo zp;refine lR 22 28 1 (iT (dZ (d.getD k 0)) L H Q M) a (fun zv _ _ a=>lY 23 0 28 3 p u e eA ((af (dZ (d.getD k 0)).num,qS L ((lim (ab (dZ (d.getD k 0)).num)).length) H,qS Q ((lim (dZ (d.getD k 0)).den).length) M):RT) 56 zv (.agg #[qF,sZ,sZ]) a a.f.1 (fun zw X _ zA a=>lL a ac (lN (kQ (lL a ac (bw 11 ((k:Nat)+1) (k+1) ?_))))));refine lL a ac (lD ?_);intro W O;replace a:=(a.tl.tl.tl.tl.aT (pd (if_pos oM) (RTs.snoc a.f.r.2.1 (lZ zm U a.f.r.1 a.f.2.1))));refine ⟨_,_,?_,⟨k+1,zw,X,e++[((af (dZ (d.getD k 0)).num,qS L ((lim (ab (dZ (d.getD k 0)).num)).length) H,qS Q ((lim (dZ (d.getD k 0)).den).length) M):RT)],zA,rfl,rfl,a.to _ _,oM⟩,O.to _ kR⟩
 omega
theorem Ej {α:Type}{d:α}{a b:List α}{k:Nat}(h:∀ i,i<k->a.getD i d=b.getD i d)(c:a.getD k d=b.getD k d):∀ i,i<k+1->a.getD i d=b.getD i d:=fun i hi=>by
 by_cases e:i=k
 ·rw[e];exact c
 ·exact h i oM
theorem JS {α:Type}[DecidableEq α]{d:α}{a b:List α}(e:a.length=b.length)(h:∀ i,i<a.length->a.getD i d=b.getD i d):Value.bool true=.bool (decide (a=b)):=by
 rw[decide_eq_true];refine O1 e (fun i h1 c=>?_);have:=h i h1
 simpa [h1,c] using this
theorem JQ {α:Type}[DecidableEq α]{a b:List α}(c:a.length≠b.length):Value.bool false=.bool (decide (a=b)):=by
 rw[decide_eq_false];intro e;exact c (by rw[e])
theorem G4 {α:Type}[DecidableEq α]{d:α}{a b:List α}(k)(h:a.getD k d≠b.getD k d):Value.bool false=.bool (decide (a=b)):=by
 rw[decide_eq_false];intro e;exact h (by rw[e])
theorem Ah (A u d ps D p e)(hl:d.length<=1000000)(hlp:ps.length<=1000000)(hf:∀ i,i<d.length->LQ (10^8) (d.getD i 0))(J:∀ i,i<ps.length->LQ (10^8) (ps.getD i 0))(w h)(g:G w h)(U:Sq A d h)(Z:Sr D e h)(K:RTs h e ps):CV 37 #[.slice A d.length u,.slice D e.length p] w h (.bool (decide (d=ps))):=by
 have a:=((((sS g).aS U).aS Z).aT K);have W:=(a.f.1).len;refine go Tryz.func37 [(0,qS A d.length u),(1,qS D e.length p)] rfl (aa a ac (ag (aa a [.c,.v (nV d.length),.c,.v (nV e.length)] ?_)));cases l:((d.length:Int) != (e.length:Int))
 .
  have x:=aU l;refine lB 10 l (ah (cK (cQ (aa a ac (aZ ?_)))));refine bH _ (CG.loop (fun I Γ O=>∃ (k:Nat)(h_:Hp),I=d.length-k/\Γ=[(0,qS A d.length u),(1,qS D e.length p),(5,nV k)]/\SS w h O h_ [] [] [Rt e ps,Sr D e,Sq A d]/\k<=d.length/\d.length=ps.length/\(∀ i,i<k->d.getD i 0=ps.getD i 0)) _ ⟨0,h,rfl,rfl,a.to _ _,NY _,by omega,fun i hi=>absurd hi (Nat.not_lt_zero i)⟩ ?_);rintro _ _ w2 ⟨k,h3,hm4,rfl,a,hk,o,z⟩;refine cQ (aa a [.c,.c,.v (nV d.length)] ?_);cases j:(decide ((k:Int)<(d.length:Int)))
  .
   have y:=oF j;refine lB 14 j (ah (CG.exit ?_))
   show CG _ _ _ _ _ _ _ _
   exact aa a ac (ae a [] qT (JS o (fun i hi=>z i oM)))
  have y:=oT j;refine lB 14 j (ak (cK (cQ (kZ (cQ (cR 10 [] mixed a ao ?_))))));refine eV 0 17 (qS A d.length u) (eV 1 18 (nV k) (eX 2 19 A d.length u 5 (k:Nat) k ((a.f.r.1).ok oM) (eH 3 20 (qv (d.getD k 0)) a ((a.f.r.1).el k oM) (eV 4 21 (qS D e.length p) (eV 5 22 (nV k) (eX 6 23 D e.length p 3 (k:Nat) k ((a.f.2.1).ok oM) ?_))))));obtain ⟨Q,X,S,dx,Y,C,F,B,H⟩:=(a.f.1).at_ k oM;replace a:=a.aP B H;refine qL 7 24 (rA (e.getD k gV)) a ((a.f.r.2.1).el k oM) Y (au 8 25 a (fun _ _ a=>FY (d.getD k 0) (ps.getD k 0) (hf k oM) (J k oM) Q X S dx C F _ _ a.g a.f.2.1 a.f.1) (fun w6 h7 a=>?_));cases L:(ie (d.getD k 0) (ps.getD k 0))
  .
   exact eV 9 26 qT (bM a (fun w9 _ a=>tN (ck (aa a ac (ae a [] qF (G4 k (oF ‹ie _ _=false›)))))))
  refine eV 9 26 qF (bM a (fun _ V a=>tN (dE (cK (kQ (lL a ac (bw 16 ((k:Nat)+1) (k+1) ?_)))))));refine lL a ac (lD ?_);intro a_ M;replace a:=a.tl.tl;refine ⟨_,_,?_,⟨k+1,V,rfl,rfl,a.to _ _,oM,o,(Ej z (oT ‹ie _ _=true›))⟩,M.to _ kR⟩
  omega
 have x:=aJ l;exact lB 10 l (ak (aa a ac (ae a [] qF (JQ oM))))
def GS (a b:Rat):Rat:=if a<b then b else a
structure Lay where
  k:Int
  W:List (List Rat)
  B:List Rat
def jE:Lay:=⟨0,[],[]⟩
abbrev LV:=Int × Value × Value
def I7:LV:=(0,undef,undef)
structure NetL (h:Hp) (ts:List LV) (ls:List Lay):Prop where
  len:ts.length=ls.length
  at_:∀ i,i<ls.length->(ts.getD i I7).1=(ls.getD i jE).k/\(∃ A c,∃ us:List Value,(ts.getD i I7).2.1=.slice A us.length c/\us.length<=c/\SlO 1 vc undef h A us/\QVs h us (ls.getD i jE).W)/\SlV 5 qc 0 h (ts.getD i I7).2.2 (ls.getD i jE).B
abbrev Nn (t:List LV)(l:List Lay):Hp->Prop:=fun h_=>NetL h_ t l
structure RNetL (h:Hp) (ts:List LV) (ls:List Lay):Prop where
  len:ts.length=ls.length
  at_:∀ i,i<ls.length->(ts.getD i I7).1=(ls.getD i jE).k/\(∃ A c,∃ us:List Value,(ts.getD i I7).2.1=.slice A us.length c/\us.length<=c/\SlO 1 vc undef h A us/\RVs h us (ls.getD i jE).W) /\
    (∃ A c,∃ rs:List RT,(ts.getD i I7).2.2=.slice A rs.length c/\rs.length<=c/\SlO 3 eA gV h A rs/\RTs h rs (ls.getD i jE).B)
abbrev Rn (t:List LV)(l:List Lay):Hp->Prop:=fun h_=>RNetL h_ t l
def Ak (l:List Rat):Prop:=∀ q∈l,∃ z,q=HN z
structure LayMk (L:Lay) (kq:Nat) (r c:Nat):Prop where
  k:L.k=(kq:Int)
  rows:L.W.length=r
  row:∀ q∈L.W,q.length=c/\Ak q
  bl:L.B.length=r
  bs:Ak L.B
theorem Bo (A j)(i:List Int)(O:i.length<=(2^63-1))(hz:p7 i)(a at_)(ha:at_<=i.length)(w h)(g:G w h)(B:Own w a 68 [.slice A i.length j,nV at_])(D:h[a]?=some bp)(C:Si A i h):Calls Tryz.prog 41 #[pB a] w (fl a w h fun v w' _=>∃ (z:Int)(at2:Nat),v=iV z/\at2<=i.length/\(-(2^63)<=z/\z<=(2^63-1))/\Own w' a 68 [.slice A i.length j,nV at2]):=by
 have e:UpM [a] w h w h:=UpM.refl g;obtain ⟨wz,x,d⟩:=SS.at_ g B D;replace d:=d.aS C;refine go Tryz.func41 [(0,pB a)] rfl (aa d ac (ag (cQ (cR 10 [] mixed d ao ?_))));refine eV 0 3 (pB a) (eV 1 4 (pB a) (eV 2 5 (qP a 1) (eO 3 6 [(0,1,1)] (nV at_) d (eV 4 7 (pB a) (eV 5 8 (pB a) (eV 6 9 (pB a) (eO 7 10 [(0,0,1)] (qS A i.length j) d (eV 8 11 (nV i.length) ?_))))))));cases l:(decide ((i.length:Int)<=(at_:Int)))
 .
  have p:=oF l;refine eB 9 12 l (kb d (fun w2 L H d=>?_));replace e:=e.trans (H.m _);refine tN (dE (cK (aa d [.c,.v (pB a),.v (qP a 1),.o (nV at_) 0 1 1] (bw 17 ((at_:Nat)+1) (at_+1) ?_))));refine lL d [.v (pB a),.v (qP a 1)] (oJ 0 1 ([nV (at_+1)]) d (fun M F d=>?_));replace e:=e.put F (ti.2 rfl) d.g;refine ag (cR 11 [] mixed d ao ?_);refine eV 0 20 (pB a) (eV 1 21 (pB a) (eV 2 22 (pB a) (eO 3 23 [(0,0,1)] (qS A i.length j) d (eV 4 24 (pB a) (eV 5 25 (pB a) (eV 6 26 (qP a 1) (eO 7 27 [(0,1,1)] (nV (at_+1)) d (kL 8 28 ((at_+1:Nat)-1) ((at_+1)-1) (eX 9 29 A i.length j 1 ((at_+1)-1:Nat) ((at_+1)-1) ((d.f.1).ok oM) (eH 10 30 (iV (i.getD ((at_+1)-1) 0)) d ((d.f.1).el ((at_+1)-1) oM) (kb d (fun J K y d=>?_))))))))))));replace e:=e.trans (y.m _);exact tV 11 2 (iV (i.getD ((at_+1)-1) 0)) (tN (kX (d.retM e [] (iV (i.getD ((at_+1)-1) 0)) ⟨i.getD ((at_+1)-1) 0,(at_+1),rfl,by omega,hz _,d.own 0⟩)))
 have p:=oT l;refine eB 9 12 l (kb d (fun I _ u d=>?_));replace e:=e.trans (u.m _);exact tN (ck (aa d ac (lN (kX (d.retM e [] (iV 0) ⟨0,at_,rfl,by omega,⟨by decide,by decide⟩,d.own 0⟩)))))
structure LayFit (L:Lay):Prop where
  rl:L.W.length<=1000000
  rls:∀ i,i<L.W.length->(L.W.getD i []).length<=1000000
  rf:∀ i,i<L.W.length->∀ j,j<(L.W.getD i []).length->LQ 100000000 ((L.W.getD i []).getD j 0)
  bl:L.B.length<=1000000
  bf:∀ i,i<L.B.length->LQ 100000000 (L.B.getD i 0)
structure Stp where
  op:Int
  a:Int
  b:Int
  n:Int
  q:Rat
abbrev sX (p:Stp):Value:=.agg #[iV p.op,iV p.a,iV p.b,iV p.n,.bool (af p.q.num),uV (lo (ab p.q.num)),.string (hi (ab p.q.num)),uV (lo (qd p.q)),.string (hi (qd p.q))]
abbrev sC (p:Stp):List Value:=[iV p.op,iV p.a,iV p.b,iV p.n,.bool (af p.q.num),uV (lo (ab p.q.num)),.string (hi (ab p.q.num)),uV (lo (qd p.q)),.string (hi (qd p.q))]
abbrev sW (o a b n:Int)(q:Rat):Value:=.agg #[iV o,iV a,iV b,iV n,.bool (af q.num),uV (lo (ab q.num)),.string (hi (ab q.num)),uV (lo (qd q)),.string (hi (qd q))]
abbrev sG (o a b n:Int)(q:Rat):List Value:=[iV o,iV a,iV b,iV n,.bool (af q.num),uV (lo (ab q.num)),.string (hi (ab q.num)),uV (lo (qd q)),.string (hi (qd q))]
def fA:Stp:=⟨0,0,0,0,0⟩
abbrev gP (l:List Stp)(k:Nat):Stp:=l.getD k fA
def gQ (op:Int):Int :=
  if op=1\/op=2 then 0 else if op=7\/op=8\/op=9\/op=10\/op=11 then 1
  else if op=3\/op=4\/op=5\/op=6\/op=12\/op=13 then 2 else -1
theorem aF (op):(gQ op=0/\(op=1\/op=2))\/(gQ op=1/\(op=7\/op=8\/op=9\/op=10\/op=11))\/(gQ op=2/\(op=3\/op=4\/op=5\/op=6\/op=12\/op=13))\/(gQ op = -1/\(op<1\/13<op)):=by
 unfold gQ;split
 ·exact .inl ⟨rfl,by assumption⟩
 ·split
  ·exact .inr (.inl ⟨rfl,by assumption⟩)
  ·split
   ·exact .inr (.inr (.inl ⟨rfl,by assumption⟩))
   ·exact .inr (.inr (.inr ⟨rfl,by omega⟩))
def pV (i:Nat)(tt:Int)(used:Prop):Prop:=(used->0<=tt/\tt<i)/\(¬used->tt=0)
def qn (inp:Int)(i:Nat)(s:Stp):Prop :=
  0<=gQ s.op/\pV i s.a (0<gQ s.op)/\pV i s.b (1<gQ s.op)/\(s.op≠1->s.q.num=0) /\
  (s.op=2->0<=s.n/\s.n<inp)/\(s.op=8 -> -12<=s.n/\s.n<=12)/\(s.op≠2->s.op≠8->s.n=0)
instance (i:Nat) (tt:Int) (u:Prop) [Decidable u]:Decidable (pV i tt u):=by unfold pV;infer_instance
instance (inp:Int) (i:Nat) (s:Stp):Decidable (qn inp i s):=by unfold qn;infer_instance
def C5 (n:Nat)(os:List Int):Prop:=∀ i,i<os.length->0<=os.getD i 0/\os.getD i 0<n
instance (n:Nat) (os:List Int):Decidable (C5 n os):=by unfold C5;infer_instance
structure RSt where
  op:Int
  a:Int
  b:Int
  n:Int
  t:RT
def LX:RSt:=⟨0,0,0,0,gV⟩
structure OSt where
  op:Int
  a:Int
  b:Int
  n:Int
  q:Rat
  has:Bool
def ER:OSt:=⟨0,0,0,0,0,false⟩
def pZ (o:OSt):Nat:=if o.has then o.q.den else 0
def OSt.stp (o:OSt):Stp:=⟨o.op,o.a,o.b,o.n,o.q⟩
abbrev gO (s:List OSt)(k:Nat):OSt:=s.getD k ER
abbrev mO (s:List OSt):List Stp:=s.map OSt.stp
theorem Fa {o:OSt}:0<(lim (pZ o)).length↔o.has=true:=by
 rw[bV];unfold pZ;have:=o.q.den_pos;cases o.has<;>simp;omega
theorem En {o:OSt}(h:o.has=true):pZ o=o.q.den:=by unfold pZ;rw[h];rfl
structure RS1 (h:Hp) (t:RSt) (o:OSt):Prop where
  op:t.op=o.op
  a:t.a=o.a
  b:t.b=o.b
  n:t.n=o.n
  q:RP h (wA t.t) o.q.num (pZ o)
  z:o.has=false->o.q=0
structure RSs (h:Hp) (ts:List RSt) (os:List OSt):Prop where
  len:ts.length=os.length
  at_:∀ i,i<os.length->RS1 h (ts.getD i LX) (os.getD i ER)
structure OSm (o:OSt):Prop where
  op : -1000<=o.op/\o.op<=1000
  a : -1000<=o.a/\o.a<=1000
  b : -1000<=o.b/\o.b<=1000
  n : -1000<=o.n/\o.n<=1000
  q:LQ 1 o.q
def LC (os:List OSt):Prop:=∀ i,i<os.length->OSm (os.getD i ER)
structure LayLen (L:Lay):Prop where
  rl:L.W.length<=1000000
  rls:∀ i,i<L.W.length->(L.W.getD i []).length<=1000000
  bl:L.B.length<=1000000
structure Mat (W:List (List Rat)) (r c:Nat):Prop where
  rows:W.length=r
  rpos:0<r
  cpos:0<c
  row:∀ i,i<r->(W.getD i []).length=c
structure Net3 (ls:List Lay) (d:Nat->Nat):Prop where
  len:1<=ls.length/\ls.length<=4
  first:d 0<=20
  lay:∀ i,i<ls.length->Mat (ls.getD i jE).W (d (i+1)) (d i)/\(ls.getD i jE).B.length=d (i+1)/\d (i+1)<=12/\((ls.getD i jE).k=1\/(ls.getD i jE).k=2\/(ls.getD i jE).k=3)
def Mn (k:Int)(u:Rat):Rat:=if k=2 then GS u 0 else if k=3 then u/(((1:Int):Rat)+kP u) else u
def Li (L:Lay)(x:List Rat):List Rat:=(List.range L.W.length).map fun i=>Mn L.k (HB (L.W.getD i []) x x.length+L.B.getD i 0)
def Fp (ls:List Lay)(xs:List Rat):Nat->List Rat
  | 0=>xs
  | k+1=>Li (ls.getD k jE) (Fp ls xs k)
abbrev gD (ls:List Lay)(xs:List Rat)(k r:Nat):Rat:=HB ((ls.getD k jE).W.getD r []) (Fp ls xs k) (Fp ls xs k).length
abbrev gS (ls:List Lay)(xs:List Rat)(k r:Nat):Rat:=gD ls xs k r+((ls.getD k jE).B).getD r 0
structure NetB (ls:List Lay) (xs:List Rat):Prop where
  w:∀ k i j,LQ 1000000 (((ls.getD k jE).W.getD i []).getD j 0)
  b:∀ k i,LQ 1000000 ((ls.getD k jE).B.getD i 0)
  x:∀ k,k<=ls.length->∀ j,LQ 1000000 ((Fp ls xs k).getD j 0)
theorem RQ.eq {h:Hp}{v:Value}{p q:Rat}(x:RQ h v p)(e:p=q):RQ h v q:=by subst e;exact x
theorem BS {n:Nat}:∀ j,(Af n (0:Rat)).getD j 0=0:=fun j=>by
 rw[Nc,List.getElem?_replicate];split<;>rfl
structure LaySz (L:Lay):Prop where
  rl:L.W.length<=8
  rls:∀ i,(L.W.getD i []).length<=8
  bl:L.B.length<=8
  w:∀ i j,LQ 1 ((L.W.getD i []).getD j 0)
  b:∀ i,LQ 1 (L.B.getD i 0)
  b4:L.B.length<=4
  w4:(L.W.getD 0 []).length<=4
theorem o7 {k:Nat}(h:1<=k):LQ k 0:=(LQ.lit (z:=0) kD).mono h
theorem cH {α:Type}{l:List α}{n i:Nat}{d x:α}(h:n<l.length):(l.set n x).getD i d=if i=n then x else l.getD i d:=by
 split
 ·rename_i e;subst e;simp[h]
 ·rename_i e;rw[Nc,vi (Ne.symm e),<-Nc]
structure LayS4 (L:Lay):Prop where
  rl:L.W.length<=4
  rls:∀ i,(L.W.getD i []).length<=4
  bl:L.B.length<=4
  w:∀ i j,LQ 1 ((L.W.getD i []).getD j 0)
  b:∀ i,LQ 1 (L.B.getD i 0)
theorem dX {α:Type}{l:List α}{i:Nat}{d:α}(h:l.length<=i):l.getD i d=d:=by rw[Nc,ua h];rfl
def HF (a:Rat):Nat->Rat
  | 0=>((1:Int):Rat)
  | k+1=>HF a k*a
def KW (a:Rat)(n:Int):Rat:=if 0<=n then HF a n.natAbs else ((1:Int):Rat)/HF a n.natAbs
def Lv (a b:Rat):Rat:=if b<a then b else a
def Mu (op n:Int)(q a b:Rat):Rat :=
  if op=1 then q else if op=3 then a+b else if op=4 then a-b else if op=5 then a*b else if op=6 then a/b else if op=7 then -a
  else if op=8 then KW a n else if op=9 then kP a else if op=10 then GS a 0 else if op=11 then a/(kP a+((1:Int):Rat)) else if op=12 then GS a b else Lv a b
def xn (op n:Int)(a b:Rat):Prop:=(op=6->b≠0)/\(op=8->n<0->a≠0)
instance (op n:Int) (a b:Rat):Decidable (xn op n a b):=by unfold xn;infer_instance
def Dl (op:Int)(a b:Rat):Prop:=(op=9\/op=10)/\a=0\/(op=12\/op=13)/\a=b
instance (op:Int) (a b:Rat):Decidable (Dl op a b):=by unfold Dl;infer_instance
def Mv (op n:Int)(a b:Rat):Rat :=
  if op=3 then ((1:Int):Rat) else if op=4 then ((1:Int):Rat) else if op=5 then b else if op=6 then ((1:Int):Rat)/b else if op=7 then -((1:Int):Rat)
  else if op=8 then (if n=0 then 0 else KW a (n-1)*((n:Int):Rat)) else if op=9 then ((a.num.sign:Int):Rat) else if op=10 then ((max a.num.sign 0:Int):Rat)
  else if op=11 then (((1:Int):Rat)/(((1:Int):Rat)+kP a))*(((1:Int):Rat)/(((1:Int):Rat)+kP a))
  else if op=12 then (if b<a then ((1:Int):Rat) else 0) else if op=13 then (if b<a then 0 else ((1:Int):Rat)) else 0
def MG (op:Int)(a b:Rat):Rat :=
  if op=3 then ((1:Int):Rat) else if op=4 then -((1:Int):Rat) else if op=5 then a else if op=6 then -(a*(((1:Int):Rat)/b)*(((1:Int):Rat)/b))
  else if op=12 then (if b<a then 0 else ((1:Int):Rat)) else if op=13 then (if b<a then ((1:Int):Rat) else 0) else 0
theorem l6 (z:Int): -1<=z.sign/\z.sign<=1:=by
 rcases Oq z 0 with h|h|h
 ·rw[Ot h];decide
 ·rw[h];decide
 ·rw[Ou h];decide
theorem HE {a:Rat}(h:a≠0):a.num≠0:=fun e=>h (by rw[<-OW];exact e)
theorem iF {a b:Rat}:dC a b=0↔a=b:=by
 constructor
 ·intro h
  have h1:¬a<b:=fun x=>by have:=jn.2 x;omega
  have c:¬b<a:=fun x=>by have:=jr.2 x;omega
  grind
 ·intro h;subst h
  have h1:¬dC a a<0:=fun x=>by have:=jn.1 x;grind
  have c:¬dC a a>0:=fun x=>by have:=jr.1 x;grind
  omega
theorem mS {a b:List Rat}(h:a.length=b.length)(hv:∀ j,a.getD j 0=b.getD j 0):a=b:=by
 refine O1 h (fun i h1 c=>?_);have:=hv i
 simpa [h1,c] using this
theorem J2 (op w h)(g:G w h):CV 113 #[iV op] w h (iV (gQ op)):=by
 have a:=sS g;refine go Tryz.func113 [(0,iV op)] rfl (aa a ac (ag (aa a ac (aZ (cQ (aA ?_))))));cases o:((op:Int) == (1:Int))
 .
  have y:=aj o;refine lB 5 o (lL a ac (ah (kQ ?_)));cases i:((op:Int) == (2:Int))
  .
   have B:=aj i;refine lB 6 i (lL a ac (ah (cQ (aA ?_))));cases d:((op:Int) == (7:Int))
   .
    have u:=aj d;refine lB 8 d (lL a ac (ah (aA ?_)));cases f:((op:Int) == (8:Int))
    .
     have F:=aj f;refine lB 9 f (lL a ac (ah (aA ?_)));cases j:((op:Int) == (9:Int))
     .
      have C:=aj j;refine lB 10 j (lL a ac (ah (aA ?_)));cases e:((op:Int) == (10:Int))
      .
       have x:=aj e;refine lB 11 e (lL a ac (ah (kQ ?_)));cases l:((op:Int) == (11:Int))
       .
        have z:=aj l;refine lB 12 l (lL a ac (ah (cQ (aA ?_))));cases c:((op:Int) == (3:Int))
        .
         have H:=aj c;refine lB 14 c (lL a ac (ah (aA ?_)));cases p:((op:Int) == (4:Int))
         .
          have D:=aj p;refine lB 15 p (lL a ac (ah (aA ?_)));cases K:((op:Int) == (5:Int))
          .
           have M:=aj K;refine lB 16 K (lL a ac (ah (aA ?_)));cases L:((op:Int) == (6:Int))
           .
            have Q:=aj L;refine lB 17 L (lL a ac (ah (aA ?_)));cases I:((op:Int) == (12:Int))
            .
             have O:=aj I;refine lB 18 I (lL a ac (ah (kQ ?_)));cases J:((op:Int) == (13:Int))
             .
              have S:=aj J;exact lB 19 J (lL a ac (ah (cK (aa a ac (ae a [] (iV (-1)) (congrArg (Value.int .i64) (by have:=aF op;omega)))))))
             have S:=eq_of_beq J;exact lB 19 J (lL a ac (ak (aa a ac (ae a [] (iV 2) (congrArg (Value.int .i64) (by have:=aF op;omega))))))
            have O:=eq_of_beq I;exact lB 18 I (lL a ac (ak (cK (ck (aa a ac (ae a [] (iV 2) (congrArg (Value.int .i64) (by have:=aF op;omega))))))))
           have Q:=eq_of_beq L;exact lB 17 L (lL a ac (ak (cK (ck (aa a ac (ae a [] (iV 2) (congrArg (Value.int .i64) (by have:=aF op;omega))))))))
          have M:=eq_of_beq K;exact lB 16 K (lL a ac (ak (cK (ck (aa a ac (ae a [] (iV 2) (congrArg (Value.int .i64) (by have:=aF op;omega))))))))
         have D:=eq_of_beq p;exact lB 15 p (lL a ac (ak (cK (ck (aa a ac (ae a [] (iV 2) (congrArg (Value.int .i64) (by have:=aF op;omega))))))))
        have H:=eq_of_beq c;exact lB 14 c (lL a ac (ak (cK (ck (aa a ac (ae a [] (iV 2) (congrArg (Value.int .i64) (by have:=aF op;omega))))))))
       have z:=eq_of_beq l;exact lB 12 l (lL a ac (ak (aa a ac (ae a [] (iV 1) (congrArg (Value.int .i64) (by have:=aF op;omega))))))
      have x:=eq_of_beq e;exact lB 11 e (lL a ac (ak (cK (ck (aa a ac (ae a [] (iV 1) (congrArg (Value.int .i64) (by have:=aF op;omega))))))))
     have C:=eq_of_beq j;exact lB 10 j (lL a ac (ak (cK (ck (aa a ac (ae a [] (iV 1) (congrArg (Value.int .i64) (by have:=aF op;omega))))))))
    have F:=eq_of_beq f;exact lB 9 f (lL a ac (ak (cK (ck (aa a ac (ae a [] (iV 1) (congrArg (Value.int .i64) (by have:=aF op;omega))))))))
   have u:=eq_of_beq d;exact lB 8 d (lL a ac (ak (cK (ck (aa a ac (ae a [] (iV 1) (congrArg (Value.int .i64) (by have:=aF op;omega))))))))
  have B:=eq_of_beq i;exact lB 6 i (lL a ac (ak (aa a ac (ae a [] (iV 0) (congrArg (Value.int .i64) (by have:=aF op;omega))))))
 have y:=eq_of_beq o;exact lB 5 o (lL a ac (ak (cK (ck (aa a ac (ae a [] (iV 0) (congrArg (Value.int .i64) (by have:=aF op;omega))))))))
theorem DP (z A c w h)(g:G w h)(p:S3 A (lim (ab z)) h):CV 168 #[.agg #[.bool (af z),.slice A ((lim (ab z)).length) c]] w h (iV z.sign):=by
 have a:=((sS g).aS p);have j:0<(lim (ab z)).length↔0<ab z:=bV
 unfold ab at j;refine go Tryz.func168 [(0,.agg #[.bool (af z),qS A ((lim (ab z)).length) c])] rfl (aA (lA 1 26 ([.bool (af z),qS A ((lim (ab z)).length) c]) a (fun l w2 u a=>lL a ac (ag (kZ (aa a [.v (qP l 1),.o (qS A ((lim (ab z)).length) c) 0 1 1,.v (nV ((lim (ab z)).length))] ?_))))));cases e:((((lim (ab z)).length:Nat):Int) == (0:Int))
 .
  have f:=aj e;refine lB 7 e (lL a ac (ah (aa a [.v (pB l),.o (.bool (af z)) 0 0 1,.c] (lN ?_))));cases d:(af z)
  .
   try rw[d] at a
   try rw[d]
   have i:=be d;exact dE (cK (aa a ac (ae a [] (iV 1) (congrArg (Value.int .i64) (by first|(rw[show z=0 by (unfold ab at *;omega)];rfl)|exact (Ot oM).symm|exact (Ou (by unfold ab at *;omega)).symm)))))
  try rw[d] at a
  try rw[d]
  have i:=bx d;exact ck (aa a ac (ae a [] (iV (-1)) (congrArg (Value.int .i64) (by first|(rw[show z=0 by (unfold ab at *;omega)];rfl)|exact (Ot oM).symm|exact (Ou (by unfold ab at *;omega)).symm))))
 have f:=eq_of_beq e;exact lB 7 e (lL a ac (ak (aa a ac (ae a [] (iV 0) (congrArg (Value.int .i64) (by first|(rw[show z=0 by (unfold ab at *;omega)];rfl)|exact (Ot oM).symm|exact (Ou (by unfold ab at *;omega)).symm))))))
theorem LK (z A c n D d)(p:(lim (ab z)).length<=c)(y:(lim n).length<=d)(w h)(g:G w h)(e:S3 A (lim (ab z)) h)(i:S3 D (lim n) h):CV 123 #[.agg #[.bool (af z),.slice A ((lim (ab z)).length) c,.slice D ((lim n).length) d]] w h (iV z.sign):=by
 have a:=(((sS g).aS e).aS i);exact go Tryz.func123 [(0,.agg #[.bool (af z),qS A ((lim (ab z)).length) c,qS D ((lim n).length) d])] rfl (aA (lA 1 28 ([.bool (af z),qS A ((lim (ab z)).length) c,qS D ((lim n).length) d]) a (fun j w2 u a=>lL a ac (aG (lL a [.v (pB j),.o (.agg #[.bool (af z),qS A ((lim (ab z)).length) c]) 0 0 2] (ar 5 a (DP z A c _ _ a.g a.f.2.1) (fun l x a=>lL a ac (ae a [] (iV z.sign) rfl))))))))
theorem GF (z A c n D d)(u:(lim (ab z)).length<=c)(y:(lim n).length<=d)(w h)(g:G w h)(x:S3 A (lim (ab z)) h)(B:S3 D (lim n) h):CV 114 #[.agg #[.bool (af z),.slice A ((lim (ab z)).length) c,.slice D ((lim n).length) d]] w h (.bool (decide (n=0\/z=0))):=by
 have a:=(((sS g).aS x).aS B);have C:0<(lim n).length↔0<n:=bV;refine go Tryz.func114 [(0,.agg #[.bool (af z),qS A ((lim (ab z)).length) c,qS D ((lim n).length) d])] rfl (aA (lA 1 28 ([.bool (af z),qS A ((lim (ab z)).length) c,qS D ((lim n).length) d]) a (fun F w2 I a=>lL a ac (aG (lL a [.v (qP F 2),.o (qS D ((lim n).length) d) 0 2 1,.v (nV ((lim n).length))] ?_)))));cases e:((((lim n).length:Nat):Int) == (0:Int))
 .
  have l:=aj e;refine lB 6 e (lL a [.c,.o (.agg #[.bool (af z),qS A ((lim (ab z)).length) c,qS D ((lim n).length) d]) 0 0 3] (ar 9 a (LK z A c n D d u y _ _ a.g a.f.2.1 a.f.1) (fun J H a=>?_)));have p:z.sign=0↔z=0:=Int.sign_eq_zero_iff_zero;cases i:((z.sign:Int) == (0:Int))
  .
   have j:=aj i;exact lB 10 i (lL a [.v qF,.c] (ae a [] qF (congrArg Value.bool (decide_eq_false oM).symm)))
  have j:=eq_of_beq i;exact lB 10 i (lL a [.v qT,.c] (ae a [] qT (congrArg Value.bool (decide_eq_true oM).symm)))
 have l:=eq_of_beq e;refine lB 6 e (lL a ac (lG 8 ?_));exact lG 9 (lG 10 (lL a [.v qT,.c] (ae a [] qT (congrArg Value.bool (decide_eq_true oM).symm))))
def fU (op n sum:Int):Int:=if op=11 then 2*sum else if op=8/\n≠0 then sum*(if n<0 then 0-n else n) else sum
theorem KI {a n:Int}(h:0<=a/\a<=(2^30))(hn : -12<=n/\n<=12): -12884901888<=a*n/\a*n<=12884901888:=by
 have h1:(a*n).natAbs<=(2^30)*12:=by rw[Om];exact Nat.mul_le_mul oM oM
 omega
theorem FV (op n a)(H:0<=a/\a<=(2^30))(hn:op=8 -> -12<=n/\n<=12)(w h)(g:G w h):CV 115 #[iV op,iV n,iV a] w h (iV (min (fU op n a) (2^30))):=by
 have d:=sS g;have e:min (a:Int) ((2^30):Int)=a:=by omega
 have J:=fun h8:op=8=>KI H (hn h8)
 have L:=fun h8:op=8=>KI (n:=0-n) H (by have:=hn h8;omega)
 rw[<-e] at J L;have Q:n<=0->(min (a:Int) ((2^30):Int))*n<=0/\0<=(min (a:Int) ((2^30):Int))*(0-n):=fun M=>⟨Int.mul_nonpos_of_nonneg_of_nonpos oM M,O2 oM oM⟩
 have S:0<=n->0<=(min (a:Int) ((2^30):Int))*n:=fun M=>O2 oM M
 refine go Tryz.func115 [(0,iV op),(1,iV n),(2,iV a)] rfl (aa d ac (ag (kZ (aa d ac ?_))));cases x:((op:Int) == (11:Int))
 .
  have B:=aj x;refine lB 9 x (lL d ac (ah (aa d ac ?_)));cases o:((op:Int) == (8:Int))
  .
   have F:=aj o;refine lB 14 o (lL d ac (lG 16 ?_));refine lG 17 (lL d [.v qF,.c] (ah (cK (aa d ac (lV 34 (iV (min (a:Int) ((2^30):Int))) ?_ (hr:=aK (n:=(if ((2^30):Int)<(a:Int) then ((2^30):Int) else (a:Int))) kR (by simp only[fW])))))));exact lL d ac (ae d [] (iV (min (a:Int) ((2^30):Int))) (congrArg (Value.int .i64) (by unfold fU;first|(rw[if_pos oM]<;>omega)|(rw[if_neg oM,if_pos oM,if_pos oM]<;>rw[e] at * <;> omega)|(rw[if_neg oM,if_pos oM,if_neg oM]<;>rw[e] at * <;> omega)|(rw[if_neg oM,if_neg oM]<;>omega))))
  have F:=eq_of_beq o;refine lB 14 o (lL d ax ?_);cases i:((n:Int) != (0:Int))
  .
   have y:=aU i;refine lB 17 i (lL d [.v qF,.c] (ah (cK (aa d ac (lV 34 (iV (min (a:Int) ((2^30):Int))) ?_ (hr:=aK (n:=(if ((2^30):Int)<(a:Int) then ((2^30):Int) else (a:Int))) kR (by simp only[fW])))))));exact lL d ac (ae d [] (iV (min (a:Int) ((2^30):Int))) (congrArg (Value.int .i64) (by unfold fU;first|(rw[if_pos oM]<;>omega)|(rw[if_neg oM,if_pos oM,if_pos oM]<;>rw[e] at * <;> omega)|(rw[if_neg oM,if_pos oM,if_neg oM]<;>rw[e] at * <;> omega)|(rw[if_neg oM,if_neg oM]<;>omega))))
  have y:=aJ i;refine lB 17 i (lL d [.v qT,.c] (ak (cQ (aa d ac ?_))));cases l:(decide ((n:Int)<(0:Int)))
  .
   have C:=oF l;refine lB 20 l (ah (cK (cQ (aa d ac ?_))));have ⟨K,O⟩:=dF (p:=(n:Int)<(0:Int)) oM;refine lB 24 K (lL d ax ?_);cases j:(decide (((2^30):Int)<(n:Int)))
   .
    have z:=oF j;refine lB 27 j (lL d [.v qF] (ah (cK (kQ (lL d ac (lV 30 (iV (min (a:Int) ((2^30):Int))) ?_ (hr:=aK (n:=(if ((2^30):Int)<(a:Int) then ((2^30):Int) else (a:Int))) kR (by simp only[fW]))))))));refine lL d ac (lI 32 ((min (a:Int) ((2^30):Int))*n) ?_);refine lL d ac (aG (lL d ac (lV 34 (iV (min ((min (a:Int) ((2^30):Int))*n:Int) ((2^30):Int))) ?_ (hr:=aK (n:=(if ((2^30):Int)<((min (a:Int) ((2^30):Int))*n:Int) then ((2^30):Int) else ((min (a:Int) ((2^30):Int))*n:Int))) kR (by simp only[fW])))));exact lL d ac (ae d [] (iV (min ((min (a:Int) ((2^30):Int))*n:Int) ((2^30):Int))) (congrArg (Value.int .i64) (by unfold fU;first|(rw[if_pos oM]<;>omega)|(rw[if_neg oM,if_pos oM,if_pos oM]<;>rw[e] at * <;> omega)|(rw[if_neg oM,if_pos oM,if_neg oM]<;>rw[e] at * <;> omega)|(rw[if_neg oM,if_neg oM]<;>omega))))
   have z:=oT j;refine lB 27 j (lL d [.v qT] (ak (kQ (lL d ac (lN (kQ (lL d ac (lV 30 (iV (min (a:Int) ((2^30):Int))) ?_ (hr:=aK (n:=(if ((2^30):Int)<(a:Int) then ((2^30):Int) else (a:Int))) kR (by simp only[fW]))))))))));refine lL d ac (lI 32 ((min (a:Int) ((2^30):Int))*(2^30)) ?_);refine lL d ac (aG (lL d ac (lV 34 (iV (min ((min (a:Int) ((2^30):Int))*(2^30):Int) ((2^30):Int))) ?_ (hr:=aK (n:=(if ((2^30):Int)<((min (a:Int) ((2^30):Int))*(2^30):Int) then ((2^30):Int) else ((min (a:Int) ((2^30):Int))*(2^30):Int))) kR (by simp only[fW])))));exact lL d ac (ae d [] (iV (min ((min (a:Int) ((2^30):Int))*(2^30):Int) ((2^30):Int))) (congrArg (Value.int .i64) (by unfold fU;first|(rw[if_pos oM]<;>omega)|(rw[if_neg oM,if_pos oM,if_pos oM]<;>rw[e] at * <;> omega)|(rw[if_neg oM,if_pos oM,if_neg oM]<;>rw[e] at * <;> omega)|(rw[if_neg oM,if_neg oM]<;>omega))))
  have C:=oT l;refine lB 20 l (ak (kQ (lL d ac (lI 22 (0-n) ?_))));refine lL d ac (ag (aa d ac ?_));cases u:(decide ((0-n:Int)<(0:Int)))
  .
   have D:=oF u;refine lB 24 u (lL d ax ?_);cases f:(decide (((2^30):Int)<(0-n:Int)))
   .
    have I:=oF f;refine lB 27 f (lL d [.v qF] (ah (cK (kQ (lL d ac (lV 30 (iV (min (a:Int) ((2^30):Int))) ?_ (hr:=aK (n:=(if ((2^30):Int)<(a:Int) then ((2^30):Int) else (a:Int))) kR (by simp only[fW]))))))));refine lL d ac (lI 32 ((min (a:Int) ((2^30):Int))*(0-n)) ?_);refine lL d ac (aG (lL d ac (lV 34 (iV (min ((min (a:Int) ((2^30):Int))*(0-n):Int) ((2^30):Int))) ?_ (hr:=aK (n:=(if ((2^30):Int)<((min (a:Int) ((2^30):Int))*(0-n):Int) then ((2^30):Int) else ((min (a:Int) ((2^30):Int))*(0-n):Int))) kR (by simp only[fW])))));exact lL d ac (ae d [] (iV (min ((min (a:Int) ((2^30):Int))*(0-n):Int) ((2^30):Int))) (congrArg (Value.int .i64) (by unfold fU;first|(rw[if_pos oM]<;>omega)|(rw[if_neg oM,if_pos oM,if_pos oM]<;>rw[e] at * <;> omega)|(rw[if_neg oM,if_pos oM,if_neg oM]<;>rw[e] at * <;> omega)|(rw[if_neg oM,if_neg oM]<;>omega))))
   have I:=oT f;refine lB 27 f (lL d [.v qT] (ak (kQ (lL d ac (lN (kQ (lL d ac (lV 30 (iV (min (a:Int) ((2^30):Int))) ?_ (hr:=aK (n:=(if ((2^30):Int)<(a:Int) then ((2^30):Int) else (a:Int))) kR (by simp only[fW]))))))))));refine lL d ac (lI 32 ((min (a:Int) ((2^30):Int))*(2^30)) ?_);refine lL d ac (aG (lL d ac (lV 34 (iV (min ((min (a:Int) ((2^30):Int))*(2^30):Int) ((2^30):Int))) ?_ (hr:=aK (n:=(if ((2^30):Int)<((min (a:Int) ((2^30):Int))*(2^30):Int) then ((2^30):Int) else ((min (a:Int) ((2^30):Int))*(2^30):Int))) kR (by simp only[fW])))));exact lL d ac (ae d [] (iV (min ((min (a:Int) ((2^30):Int))*(2^30):Int) ((2^30):Int))) (congrArg (Value.int .i64) (by unfold fU;first|(rw[if_pos oM]<;>omega)|(rw[if_neg oM,if_pos oM,if_pos oM]<;>rw[e] at * <;> omega)|(rw[if_neg oM,if_pos oM,if_neg oM]<;>rw[e] at * <;> omega)|(rw[if_neg oM,if_neg oM]<;>omega))))
  have D:=oT u;refine lB 24 u (lL d ac (lG 26 ?_));refine lG 27 (lL d [.v qT] (ak (kQ (lL d ac (lN (kQ (lL d ac (lV 30 (iV (min (a:Int) ((2^30):Int))) ?_ (hr:=aK (n:=(if ((2^30):Int)<(a:Int) then ((2^30):Int) else (a:Int))) kR (by simp only[fW]))))))))));refine lL d ac (lI 32 ((min (a:Int) ((2^30):Int))*(2^30)) ?_);refine lL d ac (aG (lL d ac (lV 34 (iV (min ((min (a:Int) ((2^30):Int))*(2^30):Int) ((2^30):Int))) ?_ (hr:=aK (n:=(if ((2^30):Int)<((min (a:Int) ((2^30):Int))*(2^30):Int) then ((2^30):Int) else ((min (a:Int) ((2^30):Int))*(2^30):Int))) kR (by simp only[fW])))));exact lL d ac (ae d [] (iV (min ((min (a:Int) ((2^30):Int))*(2^30):Int) ((2^30):Int))) (congrArg (Value.int .i64) (by unfold fU;first|(rw[if_pos oM]<;>omega)|(rw[if_neg oM,if_pos oM,if_pos oM]<;>rw[e] at * <;> omega)|(rw[if_neg oM,if_pos oM,if_neg oM]<;>rw[e] at * <;> omega)|(rw[if_neg oM,if_neg oM]<;>omega))))
 have B:=eq_of_beq x;refine lB 9 x (lL d ac (ak (kQ (lL d ac (lI 11 (2*a) ?_)))));refine lL d ac (aG (lL d ac (lV 34 (iV (min (2*a:Int) ((2^30):Int))) ?_ (hr:=aK (n:=(if ((2^30):Int)<(2*a:Int) then ((2^30):Int) else (2*a:Int))) kR (by simp only[fW])))));exact lL d ac (ae d [] (iV (min (2*a:Int) ((2^30):Int))) (congrArg (Value.int .i64) (by unfold fU;first|(rw[if_pos oM]<;>omega)|(rw[if_neg oM,if_pos oM,if_pos oM]<;>rw[e] at * <;> omega)|(rw[if_neg oM,if_pos oM,if_neg oM]<;>rw[e] at * <;> omega)|(rw[if_neg oM,if_neg oM]<;>omega))))
theorem xo {t:RT}{a b c:Value}(e:wA t=.agg #[a,b,c]):eA t=[a,b,c]:=by
 unfold wA at e;injection e with e;simp only[Array.mk.injEq,List.cons.injEq,and_true] at e;obtain ⟨f,d,h⟩:=e
 unfold eA;rw[<-f,<-d,<-h]
theorem BV {o:OSt}(hz:o.has=false->o.q=0)(h:pZ o=0\/o.q.num=0):o.q=((0:Int):Rat):=by
 rcases h with h|h
 ·refine hz ?_
  have a:=Fa (o:=o);rw[h,gA] at a
  cases c:o.has with
  | false=>rfl
  | true=>rw[c] at a;simp at a
 ·exact OW.1 h
theorem xK {o:OSt}(hz:o.has=false->o.q=0)(h:¬(pZ o=0\/o.q.num=0)):pZ o=o.q.den:=by
 refine En ?_;cases a:o.has with
 | true=>rfl
 | false=>exact absurd (.inr (by rw[hz a];rfl)) h
theorem DF (o:OSt)(A c D d)(u:(lim (ab o.q.num)).length<=c)(y:(lim (pZ o)).length<=d)(hz:o.has=false->o.q=0)(w h)(g:G w h)(H:S3 A (lim (ab o.q.num)) h)(J:S3 D (lim (pZ o)) h):CR 72 #[.agg #[.bool (af o.q.num),.slice A ((lim (ab o.q.num)).length) c,.slice D ((lim (pZ o)).length) d]] w h (fun v h1=>RQ h1 v o.q):=by
 have a:=(((sS g).aS H).aS J);refine go Tryz.func72 [(0,.agg #[.bool (af o.q.num),qS A ((lim (ab o.q.num)).length) c,qS D ((lim (pZ o)).length) d])] rfl (aA (lA 1 28 ([.bool (af o.q.num),qS A ((lim (ab o.q.num)).length) c,qS D ((lim (pZ o)).length) d]) a (fun U w2 Q a=>lA 2 28 cD a (fun K S O a=>ag (aa a [.o (.agg #[.bool (af o.q.num),qS A ((lim (ab o.q.num)).length) c,qS D ((lim (pZ o)).length) d]) 1 0 3] (ar 4 a (GF o.q.num A c (pZ o) D d u y _ _ a.g a.f.2.1 a.f.1) (fun M L a=>?_)))))));cases i:(decide (pZ o=0\/o.q.num=0))
 .
  have e:=oF i;exact ah (cK (aa a [.o (.agg #[.bool (af o.q.num),qS A ((lim (ab o.q.num)).length) c,qS D ((lim (pZ o)).length) d]) 1 0 3] (lP 0 0 ([.bool (af o.q.num),qS A ((lim (ab o.q.num)).length) c,qS D ((lim (pZ o)).length) d]) a (fun _ a=>ae a [(0,0,3)] (.agg #[.bool (af o.q.num),qS A ((lim (ab o.q.num)).length) c,qS D ((lim (pZ o)).length) d]) (by have j:=xK hz (o:=o) oM;show RP _ _ o.q.num o.q.den;rw[<-j];exact ⟨A,c,D,d,rfl,u,y,a.f.2.1,a.f.1⟩)))))
 have e:=oT i;refine ak (aA (lC 5 a (ud 0 oM oM _ _ a.g) ?_));rintro _ _ _ a ⟨x,z,l,p,rfl,B,F,C,I⟩;replace a:=a.aP C I;exact lP 0 0 (iT ((0:Int):Rat) x z l p) a (fun _ a=>ae a [(0,0,3)] (rG ((0:Int):Rat) x z l p) (RQ.eq ⟨_,_,_,_,rfl,B,F,a.f.2.1,a.f.1⟩ (BV hz oM).symm))
section ro
variable {w0:World}{h0:Hp}{w:World}{h:Hp}{B:List Bx}{R:List Rw}{F:List (Hp->Prop)}
theorem SS.ro_jk (s:SS w0 h0 w h B R F)(j){ty:TypeId}{sz c m:Nat}{A:Z9}{cs:List Value}(hr:R.getD j default=⟨ty,sz,A,c,m,cs⟩:=by kernel_rfl)(e:decide (j<R.length)=true:=by kernel_rfl):∀ b∈(Value.slice A m c).ownBlock.toList,h[b]?=some bp:=fun b d=>by
 have a:=oT e;have r:=s.ro _ (gg a);rw[fj hr a] at r
 exact r.jk b (O3.1 d)
theorem SS.ro_lt (s:SS w0 h0 w h B R F)(j){ty:TypeId}{sz c m:Nat}{A:Z9}{cs:List Value}(hr:R.getD j default=⟨ty,sz,A,c,m,cs⟩:=by kernel_rfl)(e:decide (j<R.length)=true:=by kernel_rfl):∀ b∈(Value.slice A m c).ownBlock.toList,b<h.size:=fun b d=>by
 have a:=oT e;have r:=s.ro _ (gg a);rw[fj hr a] at r
 exact aW (r.jk b (O3.1 d))
theorem SS.ro_ne (s:SS w0 h0 w h B R F)(q j){ty:TypeId}{sz c m:Nat}{A:Z9}{cs:List Value}(f:decide (q<B.length)=true:=by kernel_rfl)(hr:R.getD j default=⟨ty,sz,A,c,m,cs⟩:=by kernel_rfl)(e:decide (j<R.length)=true:=by kernel_rfl):(aw B q).b ∉ (Value.slice A m c).ownBlock.toList:=fun d=>by
 have a:=oT e;have r:=s.ro _ (gg a);rw[fj hr a] at r
 exact r.ap _ (O3.1 d) (List.mem_map.2 ⟨_,bC (oT f),rfl⟩)
end ro
end Go.Proofs.YtjljjeiejbhegaaGreatDoor
