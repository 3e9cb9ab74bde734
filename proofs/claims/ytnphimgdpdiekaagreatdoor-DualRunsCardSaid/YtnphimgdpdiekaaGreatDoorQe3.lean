/- Laws of this claim, part 4. -/
import Derived.Test.YtnphimgdpdiekaaGreatDoorQe0
import Derived.Test.YtnphimgdpdiekaaGreatDoorQe1
import Derived.Test.YtnphimgdpdiekaaGreatDoorQe2
set_option maxRecDepth 100000
set_option maxHeartbeats 4000000
namespace Go.Proofs.YtnphimgdpdiekaaGreatDoor
open Int renaming divExact_eq_ediv -> NB, dvd_refl -> Nx, dvd_trans -> Nt, emod_lt_of_pos -> NV, emod_nonneg -> NU, lt_or_le -> NW, lt_trichotomy -> Nl, mul_ediv_cancel_left -> Nk, mul_ne_zero -> NQ, mul_neg_of_neg_of_pos -> NL, mul_pos -> NM, natAbs_add_le -> NJ, natAbs_dvd -> Nv, natAbs_mul -> Ni, natAbs_natCast -> Nj, natAbs_neg -> NK, natCast_dvd_natCast -> Nu, sign_eq_neg_one_of_neg -> Nm, sign_eq_one_of_pos -> Np, tmod_eq_emod_of_nonneg -> NX
open List renaming drop_eq_nil_of_le -> z2, drop_zero -> y6, ext_getElem -> NY, getD_eq_getElem?_getD -> LH, getElem?_eq_none -> tv, getElem?_set_ne -> u9, length -> LJ, length_drop -> Mq, length_set -> LB, length_take -> LF, mem_cons -> g4, mem_cons_self -> MI, mem_singleton -> te, replicate -> As, set_set -> MZ, take_of_length_le -> Mu, take_set -> Na, toArray -> Nf
open Nat renaming add_zero -> y5, divExact_eq_div -> NC, div_le_self -> LN, eq_zero_or_pos -> Ga, gcd -> MX, gcd_comm -> MY, gcd_dvd_left -> Nr, gcd_dvd_right -> Ns, gcd_le_left -> Nd, gcd_le_right -> NI, gcd_pos_of_pos_right -> Nq, gcd_zero_right -> Nh, le_mul_of_pos_left -> Nc, le_of_lt -> Ng, le_trans -> e4, lt_of_le_of_lt -> LM, lt_or_ge -> ea, mod_lt -> LX, mul_assoc -> L6, mul_div_cancel_left -> Nb, mul_zero -> Mj, pow_mul -> LY, pow_succ -> LR, pow_zero -> L9, two_pow_pos -> Mc, zero_add -> Ab, zero_le -> MG, zero_mod -> MR
open Rat renaming add -> Ny, den_intCast -> NF, intCast_natCast -> NP, maybeNormalize -> Nz, mkRat_eq_div -> NO, mkRat_self -> NR, mul -> ND, neg_den -> NH, neg_num -> NG, normalize_eq_mkRat -> NN, num_eq_zero -> NT, num_intCast -> NE, sub_eq_add_neg -> NS
open Go.RowKit
open Go.RowKit Go.Shelf
theorem Tab.at {h:Hp}(t:Tab h){k i:Nat}(e:i<64/\Lib.deBruijn64tab.getD i 0=k):Seg h 2 i [.int .u8 ((k:Nat):Int)]:=by
 have a:=Seg.part t i 1;obtain ⟨hi,rfl⟩:=e;rw[Ab] at a
 have b:i<Lib.deBruijn64tab.length:=by show i<64;exact hi
 have e1:((Lib.deBruijn64tab.map fun k=>Value.int .u8 ((k:Nat):Int)).drop i).take 1=[.int .u8 ((Lib.deBruijn64tab.getD i 0:Nat):Int)]:=by
  rw[List.drop_eq_getElem_cons (by simpa using b)]
  simp[b]
 rw[e1] at a
 exact a
theorem Kk {s:Result Next}{b z:Nat}{w:World}(h:s=.ok (.value (.pointer (some ⟨b,0+z*1,none⟩))) w):s=.ok (.value (.pointer (some ⟨b,z,none⟩))) w:=by rw[h,Nat.mul_one,Ab]
theorem wZ {l:List Nat}(a:Wd l)(b:l.length<=(wds (aA l)).length):wds (aA l)=l:=by
 have e:=ph a;have h1:(wds (aA l)).length=min (tl l l.length) l.length:=by rw[e,LF]
 have c:=it l l.length;rw[e,Mu oM]
theorem Kd {l:List Nat}(a:Wd l):aA l<256^(8*l.length):=by
 have:=bL a;rw[LY];exact this
theorem G6 {a b:Nat}(h:wds a=wds b):a=b:=by rw[<-ay a,<-ay b,h]
theorem BJ {l:List Nat}{i:Nat}(h:i<l.length)(h0:l.getD i 0=0){n:Nat}(inv:n=18446744073709551616^i*ai 18446744073709551616 (l.drop i)):n=18446744073709551616^(i+1)*ai 18446744073709551616 (l.drop (i+1)):=by
 rw[inv,fW _ h,h0,Ab,LR,L6]
theorem I7 (x:Nat)(o:x≠0)(C:x<18446744073709551616)(w:World)(h:Hp)(g:G w h)(D:Tab h):CV 211 #[mV x] w h (nV (Lib.ctz 64 x)):=by
 have d:=((sS g).aB D);obtain ⟨j,hk⟩:=Lib.lowest_bit 64 x o C;have c:=Lib.deBruijn64_at _ hk
 generalize Lib.ctz 64 x=k at *
 generalize hp:2^k=p at *
 obtain ⟨y,hy⟩:∃ y,p*285870213051353865%18446744073709551616=y:=⟨_,rfl⟩;rw[hy] at c
 obtain ⟨z,hz⟩:∃ z,y/288230376151711744=z:=⟨_,rfl⟩;rw[hz] at c
 refine go Tryz.func211 [(0,mV x)] rfl (aa d ac (ah (aa d ac ?_)));have l:((x:Int) == (0:Int))=false:=eM oM;have B:=aj l;refine lB 4 l (ag (cK (aa d aD (lV 7 (mV (18446744073709551616-x)) ?_ (hr:=rU ((0-(x:Int))) kR (by rw[IntKind.wrap_u64];omega))))));refine lV 8 (mV p) ?_ (hr:=aI (n:=bits .and .u64 (x:Int) ((18446744073709551616-x:Nat):Int)) kR (by rw[bits_and_u64_nat _ _ C oM];exact congrArg _ j));refine lV 9 (mV y) ?_ (hr:=rU (((p:Int)*285870213051353865)) kR ((j4 p 285870213051353865).trans (congrArg _ hy)));refine lV 10 (mV z) ?_ (hr:=aI (gI (t:=38) (u:=144) (x:=.tmp 9) (y:=.const (uV 58)) (ky:=.u64) (a:=y) (n:=58) kR kR kR oM _) (congrArg _ (by rw[show (2:Nat)^58=288230376151711744 from rfl];exact hz)));refine lV 11 (qP 2 z) ?_ (hr:=Kk (Ir (t:=282) (e:=5) (x:=.global 2) (ix:=.tmp 10) (b:=2) (off:=0) (sz:=1) (len:=64) (kk:=.u64) (i:=(z:Int)) z kR kR kR kR kR rfl c.1 _));refine lH 12 (.int .u8 (k:Int)) d (Tab.at d.f.1 c) (lV 13 (nV k) ?_ (hr:=rS ((k:Int)) kR (oE oM oM)));exact lL d ac (ae d [] (nV k) rfl)
theorem rO (A:Option Addr)(c:Nat)(l:List Nat)(n:Nat)(hn:l.length=n)(y:Wd l)(I:0<aA l)(O:l.length<=1000000000)(w:World)(h:Hp)(g:G w h)(C:Tab h)(H:SlO 1 aq 0 h A l):CR 184 #[.slice A n c] w h (fun v _=>∃ k m:Nat,v=nV k/\Tz (aA l) k m/\k/64<l.length):=by
 have a:=(((sS g).aB C).aS H);refine go Tryz.func184 [(0,qS A n c)] rfl (aa a ac (aG (lL a ac (ah (kZ ?_)))));refine bH _ (CG.loop (fun u Γ D=>∃ (i:Nat) (b:Hp),u=l.length-i/\Γ=[(0,qS A n c),(2,iV 0),(3,nV i)]/\SS w h D b [] [] [fun b=>SlO 1 aq 0 b A l,fun b=>Tab b]/\i<=l.length/\aA l=18446744073709551616^i*ai 18446744073709551616 (l.drop i)) _ ⟨0,h,rfl,rfl,a.to _ _,MG _,(by show ai _ _=_;rw[L9,Nat.one_mul,y6])⟩ ?_);rintro _ _ w1 ⟨i,z,B,rfl,a,hi,inv⟩;have e:i<l.length:=by rcases ea i l.length with b|b;exact b;rw[z2 b] at inv;simp[ai] at inv;omega
 refine cQ (aa a aD (lX 6 A n c 1 (i:Nat) i ((a.f.1).ok oM) ?_));refine lH 7 (mV (l.getD i 0)) a ((a.f.1).el i oM) ?_;cases d:(((l.getD i 0:Nat):Int) == (0:Int))
 .
  have j:=aj d;refine lB 8 d (ag (CG.exit ?_))
  show CG _ _ _ _ _ _ _ _
  refine aa a ac (lI 12 (64*(i:Nat)) ?_);refine lL a aD (lX 15 A n c 1 (i:Nat) i ((a.f.1).ok oM) ?_);refine lH 16 (mV (l.getD i 0)) a ((a.f.1).el i oM) (ar 17 a (I7 (l.getD i 0) oM (y.get i) _ _ a.g a.f.2.1) (fun L K a=>?_));obtain ⟨M,p,o⟩:=Fy (x:=l.getD i 0) oM (y.get i);exact lI 18 ((64*(i:Nat))+(Lib.ctz 64 (l.getD i 0):Nat)) (lL a ac (ae a [] (iV ((64*(i:Nat))+(Lib.ctz 64 (l.getD i 0):Nat))) (⟨_,_,rfl,Tz.word (by rw[inv,fW _ e]) p o,by omega⟩)))
 have j:=eq_of_beq d;refine lB 8 d (ak (cK (kZ (kQ (lL a ac (bh 10 ((i:Nat)+1) (i+1) ?_))))));refine lL a ac (lD ?_);intro J F;refine ⟨_,_,?_,⟨i+1,z,rfl,rfl,a.to _ _,oM,(BJ e oM inv)⟩,F.to _ kR⟩
 omega
theorem Fn (A:Option Addr)(c:Nat)(l:List Nat)(n:Nat)(hn:l.length=n)(D:l.length<=1099511627776)(C:l.length<=c)(w:World)(h:Hp)(g:G w h)(z:SlO 1 aq 0 h A l):CV 212 #[.slice A n c] w h (.slice A (tl l n) c):=by
 have a:=((sS g).aS z);refine go Tryz.func212 [(0,qS A n c)] rfl (aa a ac (ah (kZ ?_)));refine bH _ (CG.loop (fun o Γ x=>∃ (m:Nat) (j:Hp),o=m/\Γ=[(2,sZ),(0,qS A m c)]/\SS w h x j [] [] [fun j=>SlO 1 aq 0 j A l]/\m<=n/\tl l n=tl l m) _ ⟨n,h,rfl,rfl,a.to _ _,nR _,rfl⟩ ?_);rintro _ _ w1 ⟨m,p,u,rfl,a,F,ht⟩;refine cQ (aa a [.c,.v (nV m)] ?_);cases d:(decide ((0:Int)<(m:Int)))
 .
  have e:=oF d;refine lB 5 d (lL a ac (lG 7 ?_));refine lG 8 (lG 9 (lG 10 (lG 11 (lG 12 (lG 13 (lL a [.v qF] (ag (CG.exit ?_))))))))
  show CG _ _ _ _ _ _ _ _
  exact aa a aD (ae a [] (qS A m c) (by rw[ht,nY oM]))
 have e:=oT d;refine lB 5 d (lL a [.c,.c,.c,.v (nV m)] (bh 10 ((m:Nat)-1) (m-1) ?_));refine lX 11 A m c 1 (m-1:Nat) (m-1) ((a.f.1).ok oM) (lH 12 (mV (l.getD (m-1) 0)) a ((a.f.1).el (m-1) oM) ?_);cases b:(((l.getD (m-1) 0:Nat):Int) == (0:Int))
 .
  have i:=aj b;refine lB 13 b (lL a [.v qF] (ag (CG.exit ?_)))
  show CG _ _ _ _ _ _ _ _
  exact aa a aD (ae a [] (qS A m c) (by rw[ht,nY oM]))
 have i:=eq_of_beq b;refine lB 13 b (lL a [.v qT] (ak (cK (kZ (kQ (lL a [.c,.c,.v (nV m)] (bh 18 ((m:Nat)-1) (m-1) ?_)))))));refine lT 19 A m c 1 (m-1:Nat) (m-1) (lL a ac (lD ?_));intro B y;refine ⟨_,_,?_,⟨m-1,p,rfl,rfl,a.to _ _,oM,(by rw[ht];exact xJ oM oM)⟩,y.to _ kR⟩
 omega
theorem xg (A:Option Addr)(c:Nat)(D:Option Addr)(d:Nat)(x y n e:Nat)(hn:(wds x).length=n)(O:(wds y).length=e)(M:(wds x).length<=1000000000)(J:(wds y).length<=1000000000)(w:World)(h:Hp)(g:G w h)(U:SlO 1 aq 0 h A (wds x))(F:SlO 1 aq 0 h D (wds y)):CV 186 #[.slice A n c,.slice D e d] w h (iV (bX x y)):=by
 have a:=(((sS g).aS U).aS F);refine go Tryz.func186 [(0,qS A n c),(1,qS D e d)] rfl (aa a ac (ah (aa a [.c,.v (nV n),.c,.v (nV e)] ?_)));cases o:((n:Int) != (e:Int))
 .
  have p:=aW o;refine lB 10 o (ag (cK (cQ (aa a [.c,.v (nV n)] (lV 18 (iV ((n:Int)-1)) ?_ (hr:=rS (((n:Nat)-1)) kR ((gL oM oM).trans oM)))))));refine lL a ac (aY ?_);refine bH _ (CG.loop (fun C Γ K=>∃ (m:Nat) (u:Hp),C=m/\Γ=[(0,qS A n c),(1,qS D e d),(5,iV ((m:Int)-1))]/\SS w h K u [] [] [fun u=>SlO 1 aq 0 u D (wds y),fun u=>SlO 1 aq 0 u A (wds x)]/\m<=n/\(wds x).length=(wds y).length/\(wds x).drop m=(wds y).drop m) _ ⟨n,h,rfl,rfl,a.to _ _,nR _,oM,(by rw[z2 oM,z2 oM])⟩ ?_);rintro _ _ w2 ⟨m,X,H,rfl,a,Y,b,i⟩;refine cQ (aa a ac ?_);cases l:(decide ((0:Int)<=((m:Int)-1:Int)))
  .
   have z:=oF l;refine lB 20 l (ag (CG.exit ?_))
   show CG _ _ _ _ _ _ _ _
   exact aa a ac (ae a [] (iV 0) (by rw[i5 (G6 (by rw[show m=0 by omega] at i;simpa using i))]))
  have z:=oT l;refine lB 20 l (ak (cK (cQ (kZ (cQ (cR 9 [] mixed a ao ?_))))));refine eV 0 23 (qS A n c) (eV 1 24 (iV ((m:Int)-1)) (eX 2 25 A n c 1 ((m:Int)-1) (m-1) ((a.f.2.1).ok oM) (eH 3 26 (mV ((wds x).getD (m-1) 0)) a ((a.f.2.1).el (m-1) oM) (eV 4 27 (qS D e d) (eV 5 28 (iV ((m:Int)-1)) (eX 6 29 D e d 1 ((m:Int)-1) (m-1) ((a.f.1).ok oM) (eH 7 30 (mV ((wds y).getD (m-1) 0)) a ((a.f.1).el (m-1) oM) ?_)))))));cases j:((((wds x).getD (m-1) 0:Nat):Int) != (((wds y).getD (m-1) 0:Nat):Int))
  .
   have B:=aW j;refine eB 8 31 j (bP a (fun V S a=>tN (dr (cK (kQ (lL a ac (lV 22 (iV (((m-1:Nat):Int)-1)) ?_ (hr:=rS ((((m:Int)-1)-1)) kR ((gL oM oM).trans oM)))))))));refine lL a ac (lD ?_);intro W Q;refine ⟨_,_,?_,⟨m-1,S,rfl,rfl,a.to _ _,oM,b,(fK (k:=m-1) b oM (by rw[show m-1+1=m by omega];exact i) oM)⟩,Q.to _ kR⟩
   omega
  have B:=aN j;refine eB 8 31 j (bP a (fun _ _ a=>tN (co (cQ (cQ (cR 9 [] mixed a ao ?_))))));refine eV 0 32 (qS A n c) (eV 1 33 (iV ((m:Int)-1)) (eX 2 34 A n c 1 ((m:Int)-1) (m-1) ((a.f.2.1).ok oM) (eH 3 35 (mV ((wds x).getD (m-1) 0)) a ((a.f.2.1).el (m-1) oM) (eV 4 36 (qS D e d) (eV 5 37 (iV ((m:Int)-1)) (eX 6 38 D e d 1 ((m:Int)-1) (m-1) ((a.f.1).ok oM) (eH 7 39 (mV ((wds y).getD (m-1) 0)) a ((a.f.1).el (m-1) oM) ?_)))))));cases za:(decide ((((wds x).getD (m-1) 0:Nat):Int)<(((wds y).getD (m-1) 0:Nat):Int)))
  .
   have I:=oF za;exact eB 8 40 za (bP a (fun _ _ a=>tN (dr (cK (aa a ac (ae a [] (iV 1) (by rw[<-lf (k:=m-1) b oM (by rw[show m-1+1=m by omega];exact i) oM,fM oM])))))))
  have I:=oT za;exact eB 8 40 za (bP a (fun _ _ a=>tN (co (aa a ac (ae a [] (iV (-1)) (by rw[<-lf (k:=m-1) b oM (by rw[show m-1+1=m by omega];exact i) oM,dY oM]))))))
 have p:=aN o;refine lB 10 o (ak (cQ (aa a [.c,.v (nV n),.c,.v (nV e)] ?_)));cases zb:(decide ((n:Int)<(e:Int)))
 .
  have L:=oF zb;exact lB 15 zb (ag (cK (aa a ac (ae a [] (iV 1) (by rw[fM (gG oM)])))))
 have L:=oT zb;exact lB 15 zb (ak (aa a ac (ae a [] (iV (-1)) (by rw[dY (gG oM)]))))
theorem BZ (n:Nat)(hn:0<n)(hl:(wds n).length<=1000000000)(w:World)(h:Hp)(g:G w h):CR 183 #[nv n] w h (fun v h1=>Ci h h1 v (wds n)):=by
 have e:=sS g;have hnb:=mI n;have Y:=mt n;have hbl:=jL n ((nb n+7)/8);have V:=(cB hn).2.2;refine go Tryz.func183 [(0,nv n)] rfl (ax (lA 1 40 (nc n) e (fun M w2 h3 e=>lL e ac (aG (lL e [.o (nv n) 0 0 2] (lC 7 e (BV n hl _ _ e.g) ?_))))));rintro _ w4 h5 e ⟨D,rfl,hb⟩;replace e:=e.aS hb;refine lL e ac (aG (lL e [.c,.v (nV ((nb n+7)/8))] (bh 10 ((((nb n+7)/8):Nat)+7) ((((nb n+7)/8):Nat)+7) ?_)));refine lV 11 (nV (((((nb n+7)/8):Nat)+7:Nat)/8)) ?_ (hr:=aI (dH (t:=3) (u:=3) (x:=.tmp 10) (y:=.const (iV 8)) (k:=.i64) (a:=(((((nb n+7)/8):Nat)+7:Nat):Int)) (b:=(8:Int)) kR kR kR oM _) (dE ((((nb n+7)/8):Nat)+7:Nat) 8 oM));refine lK 12 38 (((((nb n+7)/8):Nat)+7:Nat)/8:Nat) 1 8 (uV 0) aq 0 e (fun j w7 h8 e=>?_);have S:(As (((((nb n+7)/8):Nat)+7:Nat)/8:Nat) 0).length=(((((nb n+7)/8):Nat)+7:Nat)/8:Nat):=by simp
 refine lL e ac (ah (aa e [.c,.v (nV ((nb n+7)/8)),.c] (aY ?_)));refine bH _ (CG.loop (fun O Γ Z=>∃ (i:Nat) (l:List Nat) (H:Hp),O=((nb n+7)/8)-i/\Γ=[(2,sZ),(3,qS D ((nb n+7)/8) ((nb n+7)/8)),(4,qS (sB j) (((((nb n+7)/8):Nat)+7:Nat)/8:Nat) (((((nb n+7)/8):Nat)+7:Nat)/8:Nat)),(14,nV ((nb n+7)/8)),(15,nV i)]/\SS w h Z H [⟨j,38,(l).flatMap aq⟩,⟨M,40,nc n⟩] [] [fun H=>SlO 1 nk 0 H D (gf n ((nb n+7)/8))]/\i<=((nb n+7)/8)/\l.length=(((nb n+7)/8)+7)/8/\Wd l/\aA l=n%256^i) _ ⟨0,As (((((nb n+7)/8):Nat)+7:Nat)/8:Nat) 0,h8,rfl,rfl,e.to _ _,MG _,S,Wd.rep _,(by show ai _ _=_;rw[dM,L9,Nat.mod_one])⟩ ?_);rintro _ _ _ ⟨i,l,_,W,rfl,e,hi,z,Q,inv⟩;have hbi:=kM n ((nb n+7)/8) (((nb n+7)/8)-1-i);refine ax ?_;cases za:(decide ((i:Int)<((((nb n+7)/8):Nat):Int)))
 .
  have zb:=oF za;refine lB 16 za (ah (dr (CG.exit ?_)))
  show CG _ _ _ _ _ _ _ _
  refine aa e aD (lN (kX ?_));have I:i=((nb n+7)/8):=by omega
  have U:aA l=n:=by rw[inv,I];exact Nat.mod_eq_of_lt (wY n)
  have J:l=wds n:=by rw[<-U];exact (wZ Q (by rw[z,U];omega)).symm
  rw[J] at e
  obtain ⟨_,e,B,C,p⟩:=e.pub 0;replace e:=(e.to [⟨M,40,nc n⟩] []).aS (SlO.of_flat (sz:=1) (f:=aq) (d:=0) (b:=j) (o:=0) (l:=wds n) (fun _=>rfl) B);exact e.ret [] (qS (sB j) (((((nb n+7)/8):Nat)+7:Nat)/8:Nat) (((((nb n+7)/8):Nat)+7:Nat)/8:Nat)) (⟨j,(by rw[show (((nb n+7)/8)+7)/8=(wds n).length by omega]),C,p,e.f.1⟩)
 have zb:=oT za;refine lB 16 za (ah (co (cK (cQ (kZ (aa e aD (lN (cR 19 [] mixed e ao ?_))))))));refine eV 0 18 (qS (sB j) (((((nb n+7)/8):Nat)+7:Nat)/8:Nat) (((((nb n+7)/8):Nat)+7:Nat)/8:Nat)) (eV 1 19 (nV i) (eV 2 20 (nV (i/8)) ?_ (hv:=fun _=>aI (dH (t:=3) (u:=3) (x:=.tmp 19) (y:=.const (iV 8)) (k:=.i64) (a:=(i:Int)) (b:=(8:Int)) kR kR kR oM _) (dE i 8 oM))));refine eX 3 21 (sB j) (((((nb n+7)/8):Nat)+7:Nat)/8:Nat) (((((nb n+7)/8):Nat)+7:Nat)/8:Nat) 1 (i/8:Nat) (i/8) rfl (eQ 4 22 0 l aq 1 0 (i/8) (mV ((l).getD (i/8) 0)) e oM (eV 5 23 (qS D ((nb n+7)/8) ((nb n+7)/8)) (eV 6 24 (qS D ((nb n+7)/8) ((nb n+7)/8)) (eV 7 25 (nV ((nb n+7)/8)) (jX 8 26 ((((nb n+7)/8):Nat)-1) ((((nb n+7)/8):Nat)-1) (eV 9 27 (nV i) (jX 10 28 (((((nb n+7)/8):Nat)-1:Nat)-(i:Nat)) (((((nb n+7)/8):Nat)-1:Nat)-i) (eX 11 29 D ((nb n+7)/8) ((nb n+7)/8) 1 (((((nb n+7)/8):Nat)-1:Nat)-i:Nat) (((((nb n+7)/8):Nat)-1:Nat)-i:Nat) ((e.f.1).ok oM) (eH 12 30 (.int .u8 ((gf n ((nb n+7)/8)).getD (((((nb n+7)/8):Nat)-1:Nat)-i:Nat) 0:Nat)) e ((e.f.1).el (((((nb n+7)/8):Nat)-1:Nat)-i:Nat) oM) (eV 13 31 (mV ((gf n ((nb n+7)/8)).getD (((((nb n+7)/8):Nat)-1:Nat)-i:Nat) 0)) ?_ (hv:=fun _=>rU ((((gf n ((nb n+7)/8)).getD (((((nb n+7)/8):Nat)-1:Nat)-i:Nat) 0:Nat):Int)) kR (a8 oM oM))))))))))));refine eV 14 32 (nV i) (eV 15 33 (nV (i%8)) ?_ (hv:=fun _=>aI (ft (t:=3) (u:=3) (x:=.tmp 32) (y:=.const (iV 8)) (k:=.i64) (a:=(i:Int)) (b:=(8:Int)) kR kR kR oM _) (dk i 8)));refine jX 16 34 (8*(i%8:Nat)) (8*(i%8)) (eV 17 35 (mV (((gf n ((nb n+7)/8)).getD (((((nb n+7)/8):Nat)-1:Nat)-i:Nat) 0:Nat)*2^(8*(i%8))%18446744073709551616)) ?_ (hv:=fun _=>g9 (t:=38) (u:=3) (x:=.tmp 31) (y:=.tmp 34) (ky:=.i64) (a:=((gf n ((nb n+7)/8)).getD (((((nb n+7)/8):Nat)-1:Nat)-i:Nat) 0:Nat)) (n:=(8*(i%8))) kR kR kR _));obtain ⟨K,F,L⟩:=tR oM inv (show (gf n ((nb n+7)/8)).getD (((nb n+7)/8)-1-i) 0=n/256^i%256 by rw[i7 n ((nb n+7)/8) _ oM,show ((nb n+7)/8)-1-(((nb n+7)/8)-1-i)=i by omega]);have hlg:=Q.get (i/8);refine eV 18 36 (mV (l.getD (i/8) 0+(gf n ((nb n+7)/8)).getD (((nb n+7)/8)-1-i) 0*2^(8*(i%8)))) ?_ (hv:=fun _=>aI (iw (t:=38) (u:=38) (x:=.tmp 22) (y:=.tmp 35) (a:=((l).getD (i/8) 0)) (b:=(((gf n ((nb n+7)/8)).getD (((((nb n+7)/8):Nat)-1:Nat)-i:Nat) 0:Nat)*2^(8*(i%8))%18446744073709551616:Nat)) kR kR kR oM oM _) (by rw[K]));refine bP e (fun _ zd e=>tX 19 37 (sB j) (((((nb n+7)/8):Nat)+7:Nat)/8:Nat) (((((nb n+7)/8):Nat)+7:Nat)/8:Nat) 1 (i/8:Nat) (i/8) rfl (tW 20 0 l aq 1 (i/8) (l.getD (i/8) 0+(gf n ((nb n+7)/8)).getD (((nb n+7)/8)-1-i) 0*2^(8*(i%8)):Nat) e oM (fun _ e=>?_)));have X:((l).set (i/8) (l.getD (i/8) 0+(gf n ((nb n+7)/8)).getD (((nb n+7)/8)-1-i) 0*2^(8*(i%8)):Nat)).length=(((((nb n+7)/8):Nat)+7:Nat)/8:Nat):=by rw[LB];exact z
 replace e:=e.to [⟨j,38,((l).set (i/8) (l.getD (i/8) 0+(gf n ((nb n+7)/8)).getD (((nb n+7)/8)-1-i) 0*2^(8*(i%8)):Nat)).flatMap aq⟩,⟨M,40,nc n⟩] [];refine tN (kQ (bh 38 ((i:Nat)+1) (i+1) ?_));refine lL e ac (lD ?_);intro a_ ka;refine ⟨_,_,?_,⟨i+1,(l).set (i/8) (l.getD (i/8) 0+(gf n ((nb n+7)/8)).getD (((nb n+7)/8)-1-i) 0*2^(8*(i%8)):Nat),zd,rfl,rfl,e.to _ _,oM,X,(Q.set _ F),L⟩,ka.to _ kR⟩
 omega
theorem Ei (A:Option Addr)(c:Nat)(l:List Nat)(n:Nat)(hn:l.length=n)(J:Wd l)(hl:l.length<=1000000000)(w:World)(h:Hp)(g:G w h)(hA:SlO 1 aq 0 h A l):CV 188 #[.slice A n c] w h (nv (aA l)):=by
 have e:=((sS g).aS hA);refine go Tryz.func188 [(0,qS A n c)] rfl (ax (lA 2 40 ([uV 0,eS]) e (fun D w2 h3 e=>aG (lL e [.c,.v (nV n)] (bh 7 (8*(n:Nat)) (8*n) ?_)))));refine lK 8 5 (8*n) 1 1 (.int .u8 0) nk 0 e (fun B w5 Z e=>?_);have I:(As (8*n) 0).length=(8*n):=by simp
 refine lL e ac (ah (aa e [.c,.v (nV (8*n)),.c] (aY ?_)));refine bH _ (CG.loop (fun K Γ Y=>∃ (i:Nat) (z:List Nat) (H:Hp),K=8*n-i/\Γ=[(0,qS A n c),(2,pB D),(3,qS (sB B) (8*n) (8*n)),(10,nV (8*n)),(11,nV i)]/\SS w h Y H [⟨B,5,(z).flatMap nk⟩,⟨D,40,[uV 0,eS]⟩] [] [fun H=>SlO 1 aq 0 H A l]/\i<=8*n/\z.length=8*n/\(∀ j,j<i->z.getD (8*n-1-j) 0=aA l/256^j%256)) _ ⟨0,As (8*n) 0,Z,rfl,rfl,e.to _ _,MG _,I,(fun j L=>absurd L oM)⟩ ?_);rintro _ _ w8 ⟨i,z,V,O,rfl,e,hi,p,Q⟩;have W:=J.get (i/8);refine ax ?_;cases za:(decide ((i:Int)<(((8*n):Nat):Int)))
 .
  have zb:=oF za;refine lB 12 za (ah (dr (CG.exit ?_)))
  show CG _ _ _ _ _ _ _ _
  refine aa e ac ?_;have X:i=8*n:=by omega
  have F:z=gf (aA l) (8*n):=sq p (fun j L=>Q j oM);rw[F] at e
  obtain ⟨_,e,C,M,S⟩:=e.pub 0;replace e:=(e.to [⟨D,40,[uV 0,eS]⟩] []).aS (SlO.of_flat (sz:=1) (f:=nk) (d:=0) (b:=B) (o:=0) (l:=gf (aA l) (8*n)) (fun _=>rfl) C);exact ar 33 e (BW (aA l) (8*n) (sB B) (8*n) oM oM (by have:=Kd J;rwa [hn] at this) _ _ e.g e.f.1) (fun _ _ e=>lP 0 0 (nc (aA l)) e (fun _ e=>ae e [(0,0,2)] (nv (aA l)) rfl))
 have zb:=oT za;refine lB 12 za (ah (co (cK (cQ (kZ (aa e aD (lN (kQ (lL e [.c,.c,.v (nV (8*n))] (bh 17 (((8*n):Nat)-1) ((8*n)-1) ?_))))))))));refine lL e ac (bh 19 (((8*n)-1:Nat)-(i:Nat)) (((8*n)-1)-i) ?_);refine lL e aD (lV 22 (nV (i/8)) ?_ (hr:=aI (dH (t:=3) (u:=3) (x:=.tmp 21) (y:=.const (iV 8)) (k:=.i64) (a:=(i:Int)) (b:=(8:Int)) kR kR kR oM _) (dE i 8 oM)));refine lX 23 A n c 1 (i/8:Nat) (i/8) ((e.f.1).ok oM) (lH 24 (mV (l.getD (i/8) 0)) e ((e.f.1).el (i/8) oM) (lL e ac (lV 26 (nV (i%8)) ?_ (hr:=aI (ft (t:=3) (u:=3) (x:=.tmp 25) (y:=.const (iV 8)) (k:=.i64) (a:=(i:Int)) (b:=(8:Int)) kR kR kR oM _) (dk i 8)))));refine bh 27 (8*(i%8:Nat)) (8*(i%8)) (lV 28 (mV ((l.getD (i/8) 0)/2^(8*(i%8)))) ?_ (hr:=gI (t:=38) (u:=3) (x:=.tmp 24) (y:=.tmp 27) (ky:=.i64) (a:=(l.getD (i/8) 0)) (n:=(8*(i%8))) kR kR kR oM _));refine lV 29 (.int .u8 (l.getD (i/8) 0/2^(8*(i%8))%256:Nat)) ?_ (hr:=aI (n:=IntKind.wrap .u8 ((l.getD (i/8) 0/2^(8*(i%8)):Nat):Int)) kR (CQ _));refine lX 30 (sB B) (8*n) (8*n) 1 (((8*n)-1)-i:Nat) (((8*n)-1)-i:Nat) rfl (lW 0 z nk 1 (((8*n)-1)-i:Nat) (l.getD (i/8) 0/2^(8*(i%8))%256:Nat) e oM (fun _ e=>?_));have U:((z).set (((8*n)-1)-i:Nat) (l.getD (i/8) 0/2^(8*(i%8))%256:Nat)).length=(8*n):=by rw[LB];exact p
 replace e:=e.to [⟨B,5,((z).set (((8*n)-1)-i:Nat) (l.getD (i/8) 0/2^(8*(i%8))%256:Nat)).flatMap nk⟩,⟨D,40,[uV 0,eS]⟩] [];refine lN (kQ (bh 31 ((i:Nat)+1) (i+1) ?_));refine lL e ac (lD ?_);intro a_ ka;refine ⟨_,_,?_,⟨i+1,(z).set (((8*n)-1)-i:Nat) (l.getD (i/8) 0/2^(8*(i%8))%256:Nat),V,rfl,rfl,e.to _ _,oM,U,(ik p oM Q (rt J i))⟩,ka.to _ kR⟩
 omega
def win (l:List Nat)(o n:Nat):List Nat:=(l.drop o).take n
theorem bK {l:List Nat}{o n:Nat}(h:o+n<=l.length):(win l o n).length=n:=by unfold win;rw[LF,Mq];omega
theorem uR {l:List Nat}{o n j:Nat}(h:j<n):(win l o n).getD j 0=l.getD (o+j) 0:=by unfold win;rw[jG h,bC]
theorem kz {l:List Nat}{o n i x:Nat}(hi:i<n):win (l.set (o+i) x) o n=(win l o n).set i x:=by
 unfold win
 rw[List.drop_set,if_neg oM,Na,show o+i-o=i by omega]
theorem xr {l:List Nat}{o n q:Nat}:(win l o n).drop q=win l (o+q) (n-q):=by
 unfold win;rw[List.drop_take,List.drop_drop]
theorem ru {l:List Nat}{o n m:Nat}(h:m<=n):(win l o n).take m=win l o m:=by
 unfold win;rw[List.take_take,Nat.min_eq_left h]
theorem uS (l:List Nat)(n:Nat)(h:l.length<=n):win l 0 n=l:=by unfold win;rw[y6,Mu h]
theorem Wd.win {l:List Nat}(h:Wd l)(o n:Nat):Wd (win l o n):=Dg.take (Dg.drop h o) n
theorem uK {Z W:List Nat}{i p d a:Nat}(hi:i<Z.length)(inv:2^p*ai 18446744073709551616 (Z.take i)+a=ai 18446744073709551616 (W.take i)+18446744073709551616^i*(W.getD i 0%2^p))
  (e:2^p*d+W.getD i 0%2^p=W.getD i 0+18446744073709551616*(W.getD (i+1) 0%2^p)) :
  2^p*ai 18446744073709551616 ((Z.set i d).take (i+1))+a=ai 18446744073709551616 (W.take (i+1))+18446744073709551616^(i+1)*(W.getD (i+1) 0%2^p):=by
 have e1:=aF 18446744073709551616 (Z.set i d) i;have e2:(Z.set i d).take i=Z.take i:=by rw[Na,List.set_eq_of_length_le];rw[LF];omega
 rw[e2,bw hi,if_pos rfl] at e1
 have h:=aF 18446744073709551616 W i;have b:=congrArg (18446744073709551616^i * ·) e
 simp only[Nat.mul_add] at b
 rw[e1,h,LR,Nat.mul_add];have f:2^p*(18446744073709551616^i*d)=18446744073709551616^i*(2^p*d):=by ac_rfl
 have c:18446744073709551616^i*18446744073709551616*(W.getD (i+1) 0%2^p)=18446744073709551616^i*(18446744073709551616*(W.getD (i+1) 0%2^p)):=by ac_rfl
 rw[f,c]
 omega
theorem AY {X:List Nat}(d:Wd X){k m:Nat}(t:Tz (aA X) k m)(hk:k/64<X.length):aA (X.drop (k/64))=2^(k%64)*m/\(X.drop (k/64)).getD 0 0%2^(k%64)=0:=by
 have h1:aA (X.drop (k/64))=2^(k%64)*m:=by
  rw[nF d oM,t.1,Bu k,L6,Nb _ (Nat.pow_pos kD)]
 refine ⟨h1,?_⟩
 have c:aA (X.drop (k/64))=(X.drop (k/64)).getD 0 0+18446744073709551616*ai 18446744073709551616 ((X.drop (k/64)).drop 1):=by
  have:=fW 18446744073709551616 (l:=X.drop (k/64)) (k:=0) (by rw[Mq];omega)
  rwa [y6] at this
 have b:(18446744073709551616:Nat)=2^(k%64)*2^(64-k%64):=by rw[<-Nat.pow_add,show k%64+(64-k%64)=64 by omega]
 rw[h1] at c
 have a:(2^(k%64)*m)%2^(k%64)=0:=Nat.mul_mod_right _ _;rw[c] at a
 conv at a=>lhs;rw[b]
 rw[L6,Nat.add_mul_mod_self_left] at a
 exact a
theorem Gi {Z W:List Nat}{p m:Nat}(a:W.length<=Z.length)(inv:2^p*ai 18446744073709551616 (Z.take Z.length)+0=ai 18446744073709551616 (W.take Z.length)+18446744073709551616^Z.length*(W.getD Z.length 0%2^p))(e:aA W=2^p*m):aA Z=m:=by
 rw[List.take_length,Mu a,cn a,MR,Mj,y5,y5] at inv
 have e2:ai 18446744073709551616 W=2^p*m:=e;rw[e2] at inv
 exact Nat.eq_of_mul_eq_mul_left (Mc p) inv
theorem qU {l X:List Nat}{q i x N:Nat}(a:q+i<l.length)(h:∀ j,i<=j->j<N->l.getD (q+j) 0=X.getD j 0):∀ j,i+1<=j->j<N->(l.set (q+i) x).getD (q+j) 0=X.getD j 0:=fun j h1 b=>by
 rw[bw a,if_neg oM];exact h j oM b
theorem t8 (rb:Nat)(C:List Nat)(o n c x:Nat)(hx:0<x)(hl0:C.length<=1000000000)(I:o+n<=C.length)(hnc:n<=c)(D:Wd C)(J:win C o n=wds x)(w:World)(h:Hp)(g:G w h)(ho:Own w rb 38 (C.flatMap aq))(Y:h[rb]?=some bc)(tb:Tab h):Calls Tryz.prog 185 #[.slice (some ⟨rb,o,none⟩) n c] w (eP rb w h fun v w' _=>∃ z:List Nat,∃ o' n' c':Nat,v=.slice (some ⟨rb,o',none⟩) n' c'/\z.length=C.length/\Wd z/\o'+n'<=z.length/\n'<=c'/\(∃ k m:Nat,Tz x k m/\win z o' n'=wds m)/\Own w' rb 38 (z.flatMap aq)):=by
 have B:UpM [rb] w h w h:=UpM.refl g;obtain ⟨wz,hz,e⟩:=SS.at_ g ho Y;have bb:C.length=C.length:=rfl;replace e:=(e.aB tb);refine go Tryz.func185 [(0,qS (some ⟨rb,o,none⟩) n c)] rfl (aa e ac (aG (lL e ac (CJ 7 0 e (fun _ g_ f_ O=>rO (some ⟨rb,o,none⟩) c (win C o n) n (bK I) (D.win _ _) (by rw[J,ay];exact hx) (by rw[bK I];omega) _ _ g_ (f_.1) (SlO.win (f:=aq) (d:=0) (b:=rb) (l:=C) (fun _=>rfl) O o n)) ?_))));rintro _ w1 h2 u3 e ⟨k,m,rfl,L,hkn⟩;replace B:=B.trans (u3.m _);rw[bK I] at hkn
 have hX:=D.win o n;obtain ⟨M,K⟩:=AY hX L (by rw[bK I];omega);rw[xr] at M K
 obtain ⟨X,hXd⟩:∃ X,X=win C (o+k/64) (n-k/64):=⟨_,rfl⟩;rw[<-hXd] at M K
 have hXl:X.length=n-k/64:=by rw[hXd];exact bK oM
 have hXW:Wd X:=by rw[hXd];exact D.win _ _
 have hXg:∀ j,j<n-k/64->X.getD j 0=C.getD (o+k/64+j) 0:=fun j Y=>by rw[hXd];exact uR Y
 refine lL e ac (aG (lL e aD (lV 10 (nV (k/64)) ?_ (hr:=aI (dH (t:=3) (u:=3) (x:=.tmp 9) (y:=.const (iV 64)) (k:=.i64) (a:=(k:Int)) (b:=(64:Int)) kR kR kR oM _) (dE k 64 oM)))));refine Lr 11 rb o n c 1 (k/64:Nat) (k/64) (o+(k/64)) (lL e ac (aG (lL e ac (lV 13 (nV (k%64)) ?_ (hr:=aI (ft (t:=3) (u:=3) (x:=.tmp 12) (y:=.const (iV 64)) (k:=.i64) (a:=(k:Int)) (b:=(64:Int)) kR kR kR oM _) (dk k 64))))));refine lL e ac (ah (aa e [.c,.v (nV (n-(k/64))),.c] (aY ?_)));refine bH _ (CG.loop (fun μ_ Γ w_=>∃ (i:Nat) (l:List Nat) (h_:Hp),μ_=(n-k/64)-i/\Γ=[(0,qS (some ⟨rb,(o+(k/64)),none⟩) (n-(k/64)) (c-(k/64))),(2,sZ),(4,nV (k%64)),(15,nV (n-(k/64))),(16,nV i)]/\SS wz hz w_ h_ [⟨rb,38,(l).flatMap aq⟩] [] [fun h_=>Tab h_]/\i<=n-k/64/\l.length=C.length/\Wd l/\2^(k%64)*ai 18446744073709551616 ((win l (o+k/64) (n-k/64)).take i)+0=ai 18446744073709551616 (X.take i)+18446744073709551616^i*(X.getD i 0%2^(k%64))/\(∀ j,i<=j->j<n-k/64->l.getD (o+k/64+j) 0=X.getD j 0)/\UpM [rb] w h w_ h_) _ ⟨0,C,h2,rfl,rfl,e.to _ _,MG _,rfl,D,(by rw[K];simp[ai]),(fun j _ Y=>(hXg j Y).symm),B⟩ ?_);rintro _ _ w4 ⟨i,l,h5,hm6,rfl,e,hi,hll,hW,inv,H,B⟩;refine ax ?_;cases F:(decide ((i:Int)<((n-(k/64):Nat):Int)))
 .
  have V:=oF F;refine lB 17 F (ah (dr (CG.exit ?_)))
  show CG _ _ _ _ _ _ _ _
  refine aa e ac (CJ 47 0 e (fun _ g_ f_ O=>Fn (some ⟨rb,(o+k/64),none⟩) (c-(k/64)) (win l (o+k/64) (n-k/64)) (n-k/64) (bK oM) (by rw[bK oM];omega) (by rw[bK oM];omega) _ _ g_ (SlO.win (f:=aq) (d:=0) (b:=rb) (l:=l) (fun _=>rfl) O (o+k/64) (n-k/64))) ?_);rintro _ w8 h9 u10 e rfl;replace B:=B.trans (u10.m _);refine lL e ac (lN (kX ?_));have W:i=n-k/64:=by omega
  have hZl:(win l (o+k/64) (n-k/64)).length=n-k/64:=bK oM;have hE:=Gi (Z:=win l (o+k/64) (n-k/64)) oM (by rw[hZl,<-W];rw[<-W] at inv;exact inv) M;have hZW:Wd (win l (o+k/64) (n-k/64)):=hW.win _ _;have U:=ph hZW;rw[hE,hZl] at U
  have htl:=it (win l (o+k/64) (n-k/64)) (n-k/64);exact e.retM B [] (qS (some ⟨rb,(o+k/64),none⟩) (tl (win l (o+k/64) (n-k/64)) (n-k/64)) (c-(k/64))) ⟨l,(o+k/64),_,_,rfl,hll,hW,by omega,by omega,⟨k,m,by rw[J,ay] at L;exact L,by rw[U];exact (ru htl).symm⟩,e.own 0⟩
 have V:=oT F;refine lB 17 F (ah (co (cK (cQ (kZ (aa e aD (aG (lL e aD (HV 21 rb (o+(k/64)) (n-(k/64)) (c-(k/64)) 1 (i:Nat) i ((o+(k/64))+i) ?_)))))))));refine lQ 22 0 l aq 1 0 ((o+(k/64))+i) (mV ((l).getD ((o+(k/64))+i) 0)) e oM (lL e ac ?_);have hXi:X.getD i 0=l.getD (o+k/64+i) 0:=(H i (nR _) oM).symm;have hxi:=hW.get (o+k/64+i);have hdv:=LN (l.getD (o+k/64+i) 0) (2^(k%64));refine lV 24 (mV (((l).getD ((o+(k/64))+i) 0:Nat)/2^(k%64))) ?_ (hr:=gI (t:=38) (u:=3) (x:=.tmp 22) (y:=.tmp 23) (ky:=.i64) (a:=((l).getD ((o+(k/64))+i) 0:Nat)) (n:=(k%64)) kR kR kR oM _);refine HV 25 rb (o+(k/64)) (n-(k/64)) (c-(k/64)) 1 (i:Nat) i ((o+(k/64))+i) (JV 0 l aq 1 ((o+(k/64))+i) (((l).getD ((o+(k/64))+i) 0:Nat)/2^(k%64):Nat) e oM (fun _ pu e=>?_));replace B:=B.put pu (te.2 rfl) e.g;have zb:((l).set ((o+(k/64))+i) (((l).getD ((o+(k/64))+i) 0:Nat)/2^(k%64):Nat)).length=C.length:=by rw[LB];exact hll
 replace e:=e.to [⟨rb,38,((l).set ((o+(k/64))+i) (((l).getD ((o+(k/64))+i) 0:Nat)/2^(k%64):Nat)).flatMap aq⟩] [];refine aG (lL e ac (bh 27 ((i:Nat)+1) (i+1) ?_));refine lL e [.c,.v (nV (n-(k/64)))] ?_;cases za:(decide (((i+1:Nat):Int)<((n-(k/64):Nat):Int)))
 .
  have zc:=oF za;refine lB 30 za (ag (cK (kQ (bh 45 ((i:Nat)+1) (i+1) ?_))));refine lL e ac (lD ?_);intro a_ ka;refine ⟨_,_,?_,⟨i+1,(l).set ((o+(k/64))+i) (((l).getD ((o+(k/64))+i) 0:Nat)/2^(k%64):Nat),h5,rfl,rfl,e.to _ _,oM,zb,(hW.set _ oM),(by rw[kz oM];exact uK (by rw[bK oM];omega) inv (by rw[hXi,cn (l:=X) (show X.length<=i+1 by omega),MR,Mj,y5];exact Nat.div_add_mod _ _)),(qU oM H),B⟩,ka.to _ kR⟩
  omega
 have zc:=oT za;refine lB 30 za (ak (wg ⟨[],none⟩ 13 mixed ?_));replace B:=B.trans ((Up.drew (Up.refl e.g)).m _);replace e:=e.drew;refine aV 0 31 (qS (some ⟨rb,(o+(k/64)),none⟩) (n-(k/64)) (c-(k/64))) (aV 1 32 (nV i) (KZ 2 33 rb (o+(k/64)) (n-(k/64)) (c-(k/64)) 1 (i:Nat) i ((o+(k/64))+i) (aQ 3 34 0 ((l).set ((o+(k/64))+i) (((l).getD ((o+(k/64))+i) 0:Nat)/2^(k%64):Nat)) aq 1 0 ((o+(k/64))+i) (mV (((l).set ((o+(k/64))+i) (((l).getD ((o+(k/64))+i) 0:Nat)/2^(k%64):Nat)).getD ((o+(k/64))+i) 0)) e oM (aV 4 35 (qS (some ⟨rb,(o+(k/64)),none⟩) (n-(k/64)) (c-(k/64))) (aV 5 36 (nV i) (aV 6 37 (nV (i+1)) ?_ (hv:=fun _=>rS (((i:Nat)+1)) kR ((gL oM oM).trans oM))))))));refine KZ 7 38 rb (o+(k/64)) (n-(k/64)) (c-(k/64)) 1 (i+1:Nat) (i+1) ((o+(k/64))+(i+1)) (aQ 8 39 0 ((l).set ((o+(k/64))+i) (((l).getD ((o+(k/64))+i) 0:Nat)/2^(k%64):Nat)) aq 1 0 ((o+(k/64))+(i+1)) (mV (((l).set ((o+(k/64))+i) (((l).getD ((o+(k/64))+i) 0:Nat)/2^(k%64):Nat)).getD ((o+(k/64))+(i+1)) 0)) e oM (aV 9 40 (nV (k%64)) (aV 10 41 (nV (64-(k%64))) ?_ (hv:=fun _=>rS ((64-(k%64:Nat))) kR ((gL oM oM).trans oM)))));refine aV 11 42 (mV ((((l).set ((o+(k/64))+i) (((l).getD ((o+(k/64))+i) 0:Nat)/2^(k%64):Nat)).getD ((o+(k/64))+(i+1)) 0:Nat)*2^(64-(k%64))%18446744073709551616)) ?_ (hv:=fun _=>g9 (t:=38) (u:=3) (x:=.tmp 39) (y:=.tmp 41) (ky:=.i64) (a:=(((l).set ((o+(k/64))+i) (((l).getD ((o+(k/64))+i) 0:Nat)/2^(k%64):Nat)).getD ((o+(k/64))+(i+1)) 0:Nat)) (n:=(64-(k%64))) kR kR kR _);have hXn:X.getD (i+1) 0=l.getD (o+k/64+(i+1)) 0:=(H (i+1) oM oM).symm;obtain ⟨hS1,hS2,hS3⟩:=pF (x:=l.getD (o+k/64+i) 0) (y:=l.getD (o+k/64+(i+1)) 0) (p:=k%64) oM hxi;have S:=bw (l:=l) (k:=o+k/64+i) (j:=o+k/64+i) (x:=l.getD (o+k/64+i) 0/2^(k%64)) oM;rw[if_pos rfl] at S
 have Q:=bw (l:=l) (k:=o+k/64+i) (j:=o+k/64+(i+1)) (x:=l.getD (o+k/64+i) 0/2^(k%64)) oM;rw[if_neg oM] at Q
 refine aV 12 43 (mV (l.getD (o+k/64+i) 0/2^(k%64)+l.getD (o+k/64+(i+1)) 0*2^(64-k%64)%18446744073709551616)) ?_ (hv:=fun _=>aI (iw (t:=38) (u:=38) (x:=.tmp 34) (y:=.tmp 42) (a:=(((l).set ((o+(k/64))+i) (((l).getD ((o+(k/64))+i) 0:Nat)/2^(k%64):Nat)).getD ((o+(k/64))+i) 0:Nat)) (b:=((((l).set ((o+(k/64))+i) (((l).getD ((o+(k/64))+i) 0:Nat)/2^(k%64):Nat)).getD ((o+(k/64))+(i+1)) 0:Nat)*2^(64-(k%64))%18446744073709551616:Nat)) kR kR kR oM oM _) (by rw[S,Q,hS1]));refine Lh 13 44 rb (o+(k/64)) (n-(k/64)) (c-(k/64)) 1 (i:Nat) i ((o+(k/64))+i) (Lk 14 0 ((l).set ((o+(k/64))+i) (((l).getD ((o+(k/64))+i) 0:Nat)/2^(k%64):Nat)) aq 1 ((o+(k/64))+i) (l.getD (o+k/64+i) 0/2^(k%64)+l.getD (o+k/64+(i+1)) 0*2^(64-k%64)%18446744073709551616:Nat) e oM (fun _ pu e=>?_));replace B:=B.put pu (te.2 rfl) e.g;have zd:(((l).set ((o+(k/64))+i) (((l).getD ((o+(k/64))+i) 0:Nat)/2^(k%64):Nat)).set ((o+(k/64))+i) (l.getD (o+k/64+i) 0/2^(k%64)+l.getD (o+k/64+(i+1)) 0*2^(64-k%64)%18446744073709551616:Nat)).length=C.length:=by rw[LB];exact zb
 replace e:=e.to [⟨rb,38,(((l).set ((o+(k/64))+i) (((l).getD ((o+(k/64))+i) 0:Nat)/2^(k%64):Nat)).set ((o+(k/64))+i) (l.getD (o+k/64+i) 0/2^(k%64)+l.getD (o+k/64+(i+1)) 0*2^(64-k%64)%18446744073709551616:Nat)).flatMap aq⟩] [];refine tN (kQ (bh 45 ((i:Nat)+1) (i+1) ?_));refine lL e ac (lD ?_);intro a_ ka;refine ⟨_,_,?_,⟨i+1,((l).set ((o+(k/64))+i) (((l).getD ((o+(k/64))+i) 0:Nat)/2^(k%64):Nat)).set ((o+(k/64))+i) (l.getD (o+k/64+i) 0/2^(k%64)+l.getD (o+k/64+(i+1)) 0*2^(64-k%64)%18446744073709551616:Nat),h5,rfl,rfl,e.to _ _,oM,zd,((hW.set _ oM).set _ hS2),(by rw[MZ,kz oM];exact uK (by rw[bK oM];omega) inv (by rw[hXi,hXn];exact hS3)),(by rw[MZ];exact qU oM H),B⟩,ka.to _ kR⟩
 omega
theorem IH (rb:Nat)(u:List Nat)(o n c x:Nat)(hl0:u.length<=1000000000)(hon:o+n<=u.length)(hnc:n<=c)(hW0:Wd u)(F:win u o n=wds x)(D:Option Addr)(d y m:Nat)(hm:(wds y).length=m)(hmd:m<=d)(Z:y<=x)(w:World)(h:Hp)(g:G w h)(ho:Own w rb 38 (u.flatMap aq))(hj:h[rb]?=some bc)(hD:SlO 1 aq 0 h D (wds y)):Calls Tryz.prog 187 #[.slice (some ⟨rb,o,none⟩) n c,.slice D m d] w (eP rb w h fun v w' _=>∃ z:List Nat,∃ o' Y c':Nat,v=.slice (some ⟨rb,o',none⟩) Y c'/\z.length=u.length/\Wd z/\o'+Y<=z.length/\Y<=c'/\win z o' Y=wds (x-y)/\Own w' rb 38 (z.flatMap aq)):=by
 have e:UpM [rb] w h w h:=UpM.refl g;obtain ⟨wz,hz,a⟩:=SS.at_ g ho hj;have bn:u.length=u.length:=rfl;replace a:=a.aS hD;have hwn:n=(wds x).length:=by rw[<-F,bK hon]
 have hlm:=db Z;refine go Tryz.func187 [(0,qS (some ⟨rb,o,none⟩) n c),(1,qS D m d)] rfl (aa a ac (aG (lL a ac (ah (aa a [.c,.v (nV n),.c] (aY ?_))))));refine bH _ (CG.loop (fun μ_ Γ w_=>∃ (i:Nat) (l:List Nat) (I:Nat) (X:Hp),μ_=n-i/\Γ=[(0,qS (some ⟨rb,o,none⟩) n c),(1,qS D m d),(4,sZ),(9,nV n),(10,nV i),(5,mV I)]/\SS wz hz w_ X [⟨rb,38,(l).flatMap aq⟩] [] [fun X=>SlO 1 aq 0 X D (wds y)]/\i<=n/\l.length=u.length/\Wd l/\I<=1/\ai 18446744073709551616 (win l o n)+ai 18446744073709551616 ((wds y).take i)=x+18446744073709551616^i*I/\UpM [rb] w h w_ X) _ ⟨0,u,0,h,rfl,rfl,a.to _ _,MG _,rfl,hW0,oM,(by have hx_:ai 18446744073709551616 (wds x)=x:=ay x;rw[F,hx_];simp[ai]),e⟩ ?_);rintro _ _ w1 ⟨i,l,I,h2,hm3,rfl,a,hi,H,V,hbo,inv,e⟩;have hlk:=V.get (o+i);have hyk:=(Wd.wds y).get i;have U:=uR (l:=l) (o:=o) (n:=n) (j:=i);refine ax ?_;cases C:(decide ((i:Int)<(n:Int)))
 .
  have K:=oF C;refine lB 11 C (ah (dr (CG.exit ?_)))
  show CG _ _ _ _ _ _ _ _
  refine aa a ac (CJ 36 0 a (fun _ g_ f_ sg_=>Fn (some ⟨rb,o,none⟩) c (win l o n) n (bK oM) (by rw[bK oM];omega) (by rw[bK oM];omega) _ _ g_ (SlO.win (f:=aq) (d:=0) (b:=rb) (l:=l) (fun _=>rfl) sg_ o n)) ?_);rintro _ w5 h6 u7 a rfl;replace e:=e.trans (u7.m _);refine lL a ac (lN (kX ?_));have hiN:i=n:=by omega
  have Q:(win l o n).length=n:=bK oM;rw[Mu (show (wds y).length<=i by omega),hiN] at inv
  have S:Wd (win l o n):=V.win _ _;have hE:aA (win l o n)=x-y:=oP S (by rw[Q];have hb_:ai 18446744073709551616 (wds y)=y:=ay y;rw[hb_] at inv;exact inv) oM hbo;have L:=ph S;rw[hE,Q] at L
  have htl:=it (win l o n) n;exact a.retM e [] (qS (some ⟨rb,o,none⟩) (tl (win l o n) n) c) ⟨l,o,_,_,rfl,H,V,by omega,by omega,(by rw[L];exact (ru htl).symm),a.own 0⟩
 have K:=oT C;refine lB 11 C (ah (co (cK (cQ (kZ (aa a aD (aG (lL a ac (ah (aa a [.c,.c,.v (nV m)] ?_))))))))));cases B:(decide ((i:Int)<(m:Int)))
 .
  have W:=oF B;refine lB 16 B (ag (cK (kQ (lL a pd (HV 26 rb o n c 1 (i:Nat) i (o+i) ?_)))));refine lQ 27 0 l aq 1 0 (o+i) (mV ((l).getD (o+i) 0)) a oM (lL a aD ?_);obtain ⟨J,za,bm,bf,bb,M⟩:=jx ((l).getD (o+i) 0) 0 I wM wM oM;refine lV 30 (.tuple #[mV J,mV za]) ?_ (hr:=d8 kR (M _));refine lL a [.c,.v (mV J),.v (mV za)] (HV 33 rb o n c 1 (i:Nat) i (o+i) ?_);refine JV 0 l aq 1 (o+i) J a oM (fun _ pu a=>?_);replace e:=e.put pu (te.2 rfl) a.g;have zc:((l).set (o+i) J).length=u.length:=by rw[LB];exact H
  replace a:=a.to [⟨rb,38,((l).set (o+i) J).flatMap aq⟩] [];refine lL a ac (lN (kQ (bh 34 ((i:Nat)+1) (i+1) ?_)));refine lL a ac (lD ?_);intro a_ ka;refine ⟨_,_,?_,⟨i+1,(l).set (o+i) J,za,h2,rfl,rfl,a.to _ _,oM,zc,(V.set _ oM),oM,(by rw[kz oM];exact iM (by rw[bK oM];omega) inv (by rw[U oM];first|omega|(have hy0:=cn (l:=wds y) (k:=i) oM;omega))),e⟩,ka.to _ kR⟩
  omega
 have W:=oT B;refine lB 16 B (ak (kQ (lL a aD (lX 19 D m d 1 (i:Nat) i ((a.f.1).ok oM) ?_))));refine lH 20 (mV ((wds y).getD i 0)) a ((a.f.1).el i oM) (lL a ac (lN (kQ (lL a pd (HV 26 rb o n c 1 (i:Nat) i (o+i) ?_)))));refine lQ 27 0 l aq 1 0 (o+i) (mV ((l).getD (o+i) 0)) a oM (lL a aD ?_);obtain ⟨p,zb,bl,bk,bd,O⟩:=jx ((l).getD (o+i) 0) ((wds y).getD i 0) I wM wM oM;refine lV 30 (.tuple #[mV p,mV zb]) ?_ (hr:=d8 kR (O _));refine lL a [.c,.v (mV p),.v (mV zb)] (HV 33 rb o n c 1 (i:Nat) i (o+i) ?_);refine JV 0 l aq 1 (o+i) p a oM (fun _ pu a=>?_);replace e:=e.put pu (te.2 rfl) a.g;have zd:((l).set (o+i) p).length=u.length:=by rw[LB];exact H
 replace a:=a.to [⟨rb,38,((l).set (o+i) p).flatMap aq⟩] [];refine lL a ac (lN (kQ (bh 34 ((i:Nat)+1) (i+1) ?_)));refine lL a ac (lD ?_);intro a_ ka;refine ⟨_,_,?_,⟨i+1,(l).set (o+i) p,zb,h2,rfl,rfl,a.to _ _,oM,zd,(V.set _ oM),oM,(by rw[kz oM];exact iM (by rw[bK oM];omega) inv (by rw[U oM];first|omega|(have hy0:=cn (l:=wds y) (k:=i) oM;omega))),e⟩,ka.to _ kR⟩
 omega
theorem Tz.le {n k m:Nat}(t:Tz n k m):m<=n:=by rw[t.1];exact Nc m (Mc k)
theorem ie (a b:Nat):(bX a b=0/\a=b)\/(bX a b = -1/\a<b)\/(bX a b=1/\b<a):=by
 rcases Nat.lt_trichotomy a b with h|h|h
 ·exact .inr (.inl ⟨dY h,h⟩)
 ·exact .inl ⟨i5 h,h⟩
 ·exact .inr (.inr ⟨fM h,h⟩)
theorem vd (A:Option Addr)(c:Nat)(D:Option Addr)(d:Nat)(x y n a:Nat)(b f:List Nat)(j:b=wds x)(u:f=wds y)(hn:b.length=n)(e:f.length=a)(o:n<=1000000000)(l:a<=1000000000)(w:World)(h:Hp)(g:G w h)(p:SlO 1 aq 0 h A b)(i:SlO 1 aq 0 h D f):CV 186 #[.slice A n c,.slice D a d] w h (iV (bX x y)):=by
 subst j u;exact xg A c D d x y n a hn e oM oM w h g p i
theorem Ie (A:Option Addr)(c:Nat)(l:List Nat)(n x:Nat)(a:l=wds x)(hn:l.length=n)(d:n<=1000000000)(w:World)(h:Hp)(g:G w h)(b:SlO 1 aq 0 h A l):CV 188 #[.slice A n c] w h (nv x):=by
 subst a;have:=Ei A c (wds x) n hn (Wd.wds x) oM w h g b
 rwa [ay] at this
theorem Bh (rb:Nat)(a:List Nat)(o n c x:Nat)(p:a.length<=1000000000)(l:o+n<=a.length)(i:n<=c)(f:Wd a)(b:win a o n=wds x)(D:Option Addr)(d y m:Nat)(u:List Nat)(I:u=wds y)(J:u.length=m)(B:m<=d)(j:y<=x)(w:World)(h:Hp)(g:G w h)(H:Own w rb 38 (a.flatMap aq))(F:h[rb]?=some bc)(C:SlO 1 aq 0 h D u):Calls Tryz.prog 187 #[.slice (some ⟨rb,o,none⟩) n c,.slice D m d] w (eP rb w h fun v w' _=>∃ z:List Nat,∃ o' e c':Nat,v=.slice (some ⟨rb,o',none⟩) e c'/\z.length=a.length/\Wd z/\o'+e<=z.length/\e<=c'/\win z o' e=wds (x-y)/\Own w' rb 38 (z.flatMap aq)):=by
 subst I;exact IH rb a o n c x p l i f b D d y m J B j w h g H F C
theorem CA (x y:Nat)(hx:0<x)(hy:0<y)(hlx:(wds x).length<=1000000000)(hly:(wds y).length<=1000000000)(w:World)(h:Hp)(g:G w h)(tb:Tab h):CV 156 #[nv x,nv y] w h (nv (MX x y)):=by
 have e:=((sS g).aB tb);have hpx:=hx;have hpy:=hy;refine go Tryz.func156 [(0,nv x),(1,nv y)] rfl (ax (lA 2 40 (nc x) e (fun b1 w2 h3 e=>lA 3 40 (nc y) e (fun Z w5 h6 e=>lA 4 40 ([uV 0,eS]) e (fun X w8 h9 e=>ah ?_)))));obtain ⟨K_,hK_⟩:∃ K_,K_=w8.heap.size:=⟨_,rfl⟩;have d2:X<K_:=by rw[hK_];exact fe e 0
 have b9:Z<K_:=by rw[hK_];exact fe e 1
 have b6:b1<K_:=by rw[hK_];exact fe e 2
 refine wg ⟨[],some (K_,[])⟩ 0 mixed ?_;have hb:=e.g.size;replace e:=e.drew;have W:=Nat.le_of_eq hK_;refine zO 0 10 [(2,0,2)] (nv x) rfl W e (fun p hp=>by obtain rfl:=te.1 hp;exact b6) (zO 2 12 [(1,0,2)] (nv y) rfl W e (fun p hp=>by obtain rfl:=te.1 hp;exact b9) (se 1 11 (BZ x oM oM _ _ e.g) rfl W ?_));rintro _ _ _ u12 W ⟨H,rfl,d0,c3,f7⟩;obtain ⟨_,e,-,-⟩:=e.take u12 d0 c3;replace e:=e.to [⟨H,38,(wds x).flatMap aq⟩,⟨X,40,[uV 0,eS]⟩,⟨Z,40,nc y⟩,⟨b1,40,nc x⟩] [];refine se 3 13 (BZ y oM oM _ _ e.g) rfl W ?_;rintro _ _ _ u16 W ⟨K,rfl,dw,c4,f8⟩;obtain ⟨_,e,-,-⟩:=e.take u16 dw c4;replace e:=e.to [⟨K,38,(wds y).flatMap aq⟩,⟨H,38,(wds x).flatMap aq⟩,⟨X,40,[uV 0,eS]⟩,⟨Z,40,nc y⟩,⟨b1,40,nc x⟩] [];refine zV 4 5 (qS (sB H) ((wds x).length) ((wds x).length)) (zV 5 6 (qS (sB K) ((wds y).length) ((wds y).length)) (rD (lL e ac (KB 15 1 e (fun _ g_ f_ U=>rO (sB H) (wds x).length (wds x) (wds x).length rfl (Wd.wds x) (by rw[ay];omega) oM _ _ g_ (f_.1) (SlO.of_flat (sz:=1) (f:=aq) (d:=0) (b:=H) (o:=0) (l:=wds x) (fun _=>rfl) U)) ?_))));rintro _ _ _ e ⟨kx,mx,rfl,htx,hkx⟩;rw[ay] at htx
 refine lL e ac (KB 17 0 e (fun _ g_ f_ U=>rO (sB K) (wds y).length (wds y) (wds y).length rfl (Wd.wds y) (by rw[ay];omega) oM _ _ g_ (f_.1) (SlO.of_flat (sz:=1) (f:=aq) (d:=0) (b:=K) (o:=0) (l:=wds y) (fun _=>rfl) U)) ?_);rintro _ _ _ e ⟨ky,my,rfl,hty,hky⟩;rw[ay] at hty
 refine lV 18 (nV (min kx ky)) ?_ (hr:=aI (n:=if (ky:Int)<(kx:Int) then (ky:Int) else (kx:Int)) kR (by split<;>omega));refine lL e ac (aG (lL e ac (gi 20 (t8 H (wds x) 0 ((wds x).length) ((wds x).length) x hpx oM oM (nR _) (Wd.wds x) (uS _ _ (nR _)) _ _ e.g (e.own 1) (e.jk 1) e.f.1) ?_)));rintro _ _ _ u27 ⟨z24,o24,n24,zl,rfl,fp,cp,cz,cj,⟨hc,c8,u,cd⟩,ds⟩;replace e:=(e.stepM 1 u27 ds).to [⟨K,38,(wds y).flatMap aq⟩,⟨H,38,(z24).flatMap aq⟩,⟨X,40,[uV 0,eS]⟩,⟨Z,40,nc y⟩,⟨b1,40,nc x⟩] [];have bf:=u.odd_pos;have d3:=u.le;refine lL e ac (gi 22 (t8 K (wds y) 0 ((wds y).length) ((wds y).length) y hpy oM oM (nR _) (Wd.wds y) (uS _ _ (nR _)) _ _ e.g (e.own 0) (e.jk 0) e.f.1) ?_);rintro _ _ zm u31 ⟨z28,o28,n28,zn,rfl,f1,cr,cq,b0,⟨hj,dc,B,cf⟩,c7⟩;replace e:=(e.stepM 0 u31 c7).to [⟨K,38,(z28).flatMap aq⟩,⟨H,38,(z24).flatMap aq⟩,⟨X,40,[uV 0,eS]⟩,⟨Z,40,nc y⟩,⟨b1,40,nc x⟩] [];have cx:=B.odd_pos;have fm:=B.le;refine lL e aD (ah (kZ ?_));refine bH _ (CG.loop (fun μ_ Γ w_=>∃ (J:Nat) (L:List Nat) (S:Nat) (O:Nat) (c1:Nat) (Q:Nat) (l2:List Nat) (Y:Nat) (V:Nat) (c2:Nat) (D:Nat) (y1:Nat) (h_:Hp),μ_=D+y1/\Γ=[(4,pB X),(7,nV (min kx ky)),(5,qS (some ⟨J,S,none⟩) O c1),(6,qS (some ⟨Q,Y,none⟩) V c2)]/\SS w h w_ h_ [⟨Q,38,(l2).flatMap aq⟩,⟨J,38,(L).flatMap aq⟩,⟨X,40,[uV 0,eS]⟩,⟨Z,40,nc y⟩,⟨b1,40,nc x⟩] [] [fun h_=>Tab h_]/\L.length<=1000000000/\Wd L/\S+O<=L.length/\O<=c1/\win L S O=wds D/\0<D/\l2.length<=1000000000/\Wd l2/\Y+V<=l2.length/\V<=c2/\win l2 Y V=wds y1/\0<y1/\D%2=1/\y1%2=1/\MX D y1*2^min kx ky=MX x y) _ ⟨H,z24,o24,n24,zl,K,z28,o28,n28,zn,c8,dc,zm,rfl,rfl,e.to _ _,oM,cp,cz,cj,cd,bf,oM,cr,cq,b0,cf,cx,u.2,B.2,(by rw[(htx.uniq u).1,(hty.uniq B).1];exact (Bi u B).symm)⟩ ?_);rintro _ _ _ ⟨J,L,S,O,c1,Q,l2,Y,V,c2,D,y1,_,hd,rfl,e,hl1,hW1,C,bb,i,hx1,hl2,hW2,M,bd,j,hy1,hxo,hyo,hG⟩;have hh:=ie D y1;have dz:=congrArg LJ i;rw[bK C] at dz
 have d1:=congrArg LJ j;rw[bK M] at d1
 refine kZ (aa e aD (Kx 25 1 0 e (fun _ g_ f_ U sh_=>vd (some ⟨J,S,none⟩) c1 (some ⟨Q,Y,none⟩) c2 D y1 O V (win L S O) (win l2 Y V) i j (bK C) (bK M) oM oM _ _ g_ (SlO.win (f:=aq) (d:=0) (b:=J) (l:=L) (fun _=>rfl) U S O) (SlO.win (f:=aq) (d:=0) (b:=Q) (l:=l2) (fun _=>rfl) sh_ Y V)) ?_));rintro _ _ _ e rfl;refine lL e ac (ah (aa e ac ?_));cases za:((bX D y1:Int) == (0:Int))
 .
  have zd:=aj za;refine lB 27 za (ag (cK (cQ (aa e ac ?_))));cases zb:(decide ((bX D y1:Int)<(0:Int)))
  .
   have ze:=oF zb;refine lB 29 zb (ag (cK (kQ (lL e aD (Io 34 1 0 e (fun _ g_ f_ hj_ sh_=>Bh J L S O c1 D oM C bb hW1 i (some ⟨Q,Y,none⟩) c2 y1 V (win l2 Y V) j (bK M) bd oM _ _ g_ (e.own 1) hj_ (SlO.win (f:=aq) (d:=0) (b:=Q) (l:=l2) (fun _=>rfl) sh_ Y V)) ?_)))));rintro _ _ _ u44 ⟨s41,dm,dy,dd,rfl,d4,b2,cv,cw,cm,zi⟩;replace e:=(e.stepM 1 u44 zi).to [⟨Q,38,(l2).flatMap aq⟩,⟨J,38,(s41).flatMap aq⟩,⟨X,40,[uV 0,eS]⟩,⟨Z,40,nc y⟩,⟨b1,40,nc x⟩] [];refine gi 35 (t8 J s41 dm dy dd (D-y1) oM oM cv cw b2 cm _ _ e.g (e.own 1) (e.jk 1) e.f.1) ?_;rintro _ _ zo u48 ⟨z45,o45,n45,zp,rfl,fn,ch,bl,bt,⟨hl,dn,F,b3⟩,c5⟩;replace e:=(e.stepM 1 u48 c5).to [⟨Q,38,(l2).flatMap aq⟩,⟨J,38,(z45).flatMap aq⟩,⟨X,40,[uV 0,eS]⟩,⟨Z,40,nc y⟩,⟨b1,40,nc x⟩] [];have b5:=F.odd_pos;have d5:=F.le;refine lL e ac (lD ?_);intro a_ ka;refine ⟨_,_,?_,⟨J,z45,o45,n45,zp,Q,l2,Y,V,c2,dn,y1,zo,rfl,rfl,e.to _ _,oM,ch,bl,bt,b3,b5,oM,hW2,M,bd,j,hy1,F.2,hyo,(by rw[uP oM hyo F];exact hG)⟩,ka.to _ kR⟩
   omega
  have ze:=oT zb;refine lB 29 zb (ak (kQ (lL e pd (lN (kQ (lL e aD (Io 34 0 1 e (fun _ g_ f_ hj_ sh_=>Bh Q l2 Y V c2 y1 oM M bd hW2 j (some ⟨J,S,none⟩) c1 D O (win L S O) i (bK C) bb oM _ _ g_ (e.own 0) hj_ (SlO.win (f:=aq) (d:=0) (b:=J) (l:=L) (fun _=>rfl) sh_ S O)) ?_)))))));rintro _ _ _ u67 ⟨s64,df,dv,c9,rfl,d6,cy,bn,bm,bk,zj⟩;replace e:=(e.stepM 0 u67 zj).to [⟨Q,38,(s64).flatMap aq⟩,⟨J,38,(L).flatMap aq⟩,⟨X,40,[uV 0,eS]⟩,⟨Z,40,nc y⟩,⟨b1,40,nc x⟩] [];refine gi 35 (t8 Q s64 df dv c9 (y1-D) oM oM bn bm cy bk _ _ e.g (e.own 0) (e.jk 0) e.f.1) ?_;rintro _ _ zq u71 ⟨z68,o68,n68,zr,rfl,f3,bz,br,bx,⟨f6,c6,I,bq⟩,dx⟩;replace e:=(e.stepM 0 u71 dx).to [⟨Q,38,(z68).flatMap aq⟩,⟨J,38,(L).flatMap aq⟩,⟨X,40,[uV 0,eS]⟩,⟨Z,40,nc y⟩,⟨b1,40,nc x⟩] [];have cb:=I.odd_pos;have f2:=I.le;refine lL e ac (lD ?_);replace e:=e.perm (List.Perm.swap _ _ _);intro a_ ka;refine ⟨_,_,?_,⟨Q,z68,o68,n68,zr,J,L,S,O,c1,c6,D,zq,rfl,rfl,e.to _ _,oM,bz,br,bx,bq,cb,oM,hW1,C,bb,i,hx1,I.2,hxo,(by rw[uP oM hxo I,MY];exact hG)⟩,ka.to _ kR⟩
  omega
 have zd:=eq_of_beq za;refine lB 27 za (ak (CG.exit ?_))
 show CG _ _ _ _ _ _ _ _
 refine aa e ac (KB 37 1 e (fun _ g_ f_ U=>Ie (some ⟨J,S,none⟩) c1 (win L S O) O D i (bK C) oM _ _ g_ (SlO.win (f:=aq) (d:=0) (b:=J) (l:=L) (fun _=>rfl) U S O)) ?_);rintro _ _ _ e rfl;refine lA 9 40 ([uV 0,eS]) e (fun zg _ zs e=>lP 0 0 (nc D) e (fun _ e=>ah (kZ ?_)));refine bH _ (CG.loop (fun μ_ Γ w_=>∃ (z:Int) (a:Nat) (h_:Hp),μ_=z.toNat/\Γ=[(4,pB X),(9,pB zg),(7,iV z)]/\SS w h w_ h_ [⟨zg,40,nc a⟩,⟨Q,38,(l2).flatMap aq⟩,⟨J,38,(L).flatMap aq⟩,⟨X,40,[uV 0,eS]⟩,⟨Z,40,nc y⟩,⟨b1,40,nc x⟩] [] [fun h_=>Tab h_]/\z<=64000000000/\a*2^z.toNat=MX x y) _ ⟨((min kx ky:Nat):Int),D,zs,rfl,rfl,e.to _ _,oM,(by rw[show D=y1 by omega,Nat.gcd_self] at hG;rw[show D=y1 by omega];rw[show (((min kx ky:Nat):Int)).toNat=min kx ky by omega];exact hG)⟩ ?_);rintro _ _ _ ⟨z,a,_,f9,rfl,e,hz,ha⟩;refine cQ (aa e ac ?_);cases zc:(decide ((0:Int)<(z:Int)))
 .
  have zf:=oF zc;refine lB 39 zc (ag (CG.exit ?_))
  show CG _ _ _ _ _ _ _ _
  exact aa e [.o (nv a) 0 0 2] (lP 3 0 (nc a) e (fun _ e=>ae e [(3,0,2)] (nv a) (by rw[show z.toNat=0 by omega,L9,Nat.mul_one] at ha;rw[ha])))
 have zf:=oT zc;refine lB 39 zc (ak (cK (cQ (kZ (kQ (lL e [.o (nv a) 0 0 2,.c] (lV 44 (nV (min z.toNat 65536)) ?_ (hr:=aI (n:=if (65536:Int)<z then (65536:Int) else z) kR (by split<;>omega)))))))));refine ar 45 e (G8 a (min z.toNat 65536) (by have:=db (show a<=x by exact e4 (Nat.le_mul_of_pos_right a (Mc z.toNat)) (by rw[ha];exact Nd y hx));omega) oM _ _ e.g) (fun _ zk e=>lP 0 0 (nc (a*2^min z.toNat 65536)) e (fun _ e=>lN (kQ (lL e ac (lI 41 (z-65536) ?_)))));refine lL e ac (lD ?_);intro a_ ka;refine ⟨_,_,?_,⟨z-65536,a*2^min z.toNat 65536,zk,rfl,rfl,e.to _ _,oM,(by rw[L6,<-Nat.pow_add,show min z.toNat 65536+(z-65536).toNat=z.toNat by omega];exact ha)⟩,ka.to _ kR⟩
 omega
theorem mX (n:Nat):(n=0/\nb n=0)\/(0<n/\0<nb n):=by
 rcases Ga n with h|h
 ·subst h;exact .inl ⟨rfl,rfl⟩
 ·exact .inr ⟨h,(cB h).2.2⟩
theorem j0 (x y:Nat):MX y (x%y)=MX x y:=by rw[MY y,<-Nat.gcd_rec,MY]
theorem Fx (n:Nat)(w:World)(h:Hp)(g:G w h):CR 155 #[nv n] w h (fun v _=>∃ s:Nat,∃ ok:Bool,v=.tuple #[mV s,.bool ok]/\(ok=true->s=n/\n<18446744073709551616)):=by
 rcases ea n 18446744073709551616 with hn|hn
 ·refine (tc n hn w h g).mono ?_
  rintro _ w' ⟨_,h',rfl,u,rfl⟩;exact ⟨_,h',rfl,u,n,true,rfl,fun _=>⟨rfl,hn⟩⟩
 ·refine (EL n hn w h g).mono ?_
  rintro _ w' ⟨_,h',rfl,u,rfl⟩;exact ⟨_,h',rfl,u,0,false,rfl,fun e=>by cases e⟩
theorem Kt (a b:Int)(hla:(wds (ab a)).length<=1000000000)(hlb:(wds (ab b)).length<=1000000000)(w:World)(h:Hp)(g:G w h)(tb:Tab h):CV 126 #[iv a,iv b] w h (nv (MX (ab a) (ab b))):=by
 have d:=((sS g).aB tb);refine go Tryz.func126 [(0,iv a),(1,iv b)] rfl (ax (lA 2 42 (ic a) d (fun Y w2 h3 d=>lA 3 42 (ic b) d (fun X w5 h6 d=>lA 4 40 ([uV 0,eS]) d (fun S w8 h9 d=>ah ?_)))));have l:=d;refine Fa 6 [⟨4,5,.cells (Nf [uV 0,eS]) 40 (0,0)⟩,⟨5,6,.cells (Nf [uV 0,eS]) 40 (0,0)⟩] [] mixed d (bv (eg kR (fun _ _=>by kernel_rfl)) (bv (eg kR (fun _ _=>by kernel_rfl)) ao)) (eV 0 14 (qP Y 1) (eO 1 15 [(2,1,2)] (nv (ab a)) d (eV 2 16 (qP X 1) (xn 3 17 [(1,1,2)] (nv (ab b)) l d (Hg l d 40 [uV 0,eS] 40 [uV 0,eS] (fun _ _ L F I H d=>tP 6 0 0 (nc (ab a)) d (fun _ d=>?_) (hz:=i8 I)))))));refine tP 7 1 0 (nc (ab b)) d (fun _ d=>?_) (hz:=i8 H);refine tN (CG.join (fun Γ W=>∃ (x:Nat) (y:Nat) (C:Hp),Γ=[(4,pB S),(6,pB F),(5,pB L)]/\SS w h W C [⟨L,40,nc x⟩,⟨F,40,nc y⟩,⟨S,40,[uV 0,eS]⟩,⟨X,42,ic b⟩,⟨Y,42,ic a⟩] [] [fun C=>Tab C]/\(wds x).length<=1000000000/\(wds y).length<=1000000000/\MX x y=MX (ab a) (ab b)) ?_ ?_)
 .
  refine aa d [.o (nv (ab a)) 0 0 2,.o (nv (ab b)) 1 0 2] (ar 20 d (lr (ab a) (ab b) aM aM _ _ d.g) (fun _ zm d=>?_));have hcm:=ie (ab a) (ab b);cases za:(decide ((bX (ab a) (ab b):Int)<(0:Int)))
  .
   have zi:=oF za;refine lB 21 za (ag (CG.skip ?_));intro a_ K;exact ⟨_,⟨(ab a),(ab b),zm,rfl,d.to _ _,aM,aM,(by first|rfl|exact MY _ _)⟩,K.to _ kR⟩
  have zi:=oT za;refine lB 21 za (ak (kQ (lL d [.o (nv (ab b)) 1 0 2,.o (nv (ab a)) 0 0 2] (lP 0 0 (nc (ab b)) d (fun _ d=>lP 1 0 (nc (ab a)) d (fun _ d=>lD ?_))))));intro a_ K;exact ⟨_,⟨(ab b),(ab a),zm,rfl,d.to _ _,aM,aM,(by first|rfl|exact MY _ _)⟩,K.to _ kR⟩
 rintro _ _ ⟨x,y,_,rfl,d,hlx,hly,J⟩;refine cQ (aa d [.o (nv y) 1 0 2] (ar 25 d (fZ y (by first|assumption|exact aw (Ng (LX _ oM)) aM) _ _ d.g) (fun _ _ d=>?_)));have bk:=mX y;cases zb:(((nb y:Nat):Int) == (0:Int))
 .
  have zj:=aj zb;refine lB 26 zb (ag (cK (aa d [.o (nv x) 0 0 2,.o (nv y) 1 0 2] (ar 31 d (JM x y oM aM aM _ _ d.g) (fun _ _ d=>?_)))));have hmd:=LX x (show 0<y by omega);refine lL d [.c,.v (nv (x/y)),.v (nv (x%y)),.v qT] (lA 7 40 ([uV 0,eS]) d (fun zn _ _ d=>lA 8 40 ([uV 0,eS]) d (fun zo _ _ d=>lP 1 0 (nc (x/y)) d (fun _ d=>lP 0 0 (nc (x%y)) d (fun _ d=>lL d ac (ah ?_))))));have l:=d;refine Fa 2 [] [L,F] mixed d ao (eO 0 35 [(3,0,2)] (nv y) d (xn 1 36 [(0,0,2)] (nv (x%y)) l d ?_ (hM:=fun p V=>by obtain rfl:=te.1 V;exact fun M=>by rcases g4.1 M with e|M;exact gt d.st (i:=0) (j:=2) kR kR kR e;rcases g4.1 M with e|M;exact gt d.st (i:=0) (j:=3) kR kR kR e;cases M)));refine bP d (fun _ _ d=>tP 2 2 0 (nc y) d (fun _ d=>?_) (hz:=gF (MI)));refine tP 3 3 0 (nc (x%y)) d (fun _ d=>?_) (hz:=gF (List.mem_cons_of_mem _<|MI));refine tN (cQ (ax ?_));have D:MX y (x%y)=MX (ab a) (ab b):=by rw[<-J];exact j0 _ _
  refine lL d [.o (nv (x%y)) 3 0 2] (ar 38 d (fZ (x%y) (by first|assumption|exact aw (Ng (LX _ oM)) aM) _ _ d.g) (fun _ _ d=>?_));have bb:=mX (x%y);cases Q:(((nb (x%y):Nat):Int) == (0:Int))
  .
   have zk:=aj Q;refine lB 39 Q (ag (cK (cQ (aa d [.o (nv y) 2 0 2] (lC 43 d (Fx y _ _ d.g) ?_)))));rintro _ _ _ d ⟨sp,ok,rfl,z⟩;refine lL d [.c,.v (mV sp),.v (.bool ok),.c,.c] (aG (lL d ac (lN ?_)));cases U:(ok)
   .
    try rw[U] at d
    try rw[U]
    exact dr (cK (aa d [.o (nv y) 2 0 2,.o (nv (x%y)) 3 0 2] (ar 62 d (CA y (x%y) oM oM (by first|assumption|exact aw (Ng (LX _ oM)) aM) (by first|assumption|exact aw (Ng (LX _ oM)) aM) _ _ d.g d.f.1) (fun _ _ d=>lP 4 0 (nc (MX y (x%y))) d (fun _ d=>ae d [(4,0,2)] (nv (MX y (x%y))) (congrArg nv D))))))
   try rw[U] at d
   try rw[U]
   refine co (aa d [.o (nv (x%y)) 3 0 2] (ar 49 d (tc (x%y) (by have B:=z aM;omega) _ _ d.g) (fun _ zp d=>lL d [.c,.v (mV (x%y)),.v qT,.c,.c] (ah (kZ ?_)))));refine bH _ (CG.loop (fun Z Γ W=>∃ (p:Nat) (q:Nat) (C:Hp),Z=q/\Γ=[(4,pB S),(6,pB F),(5,pB L),(10,mV p),(12,mV q)]/\SS w h W C [⟨zo,40,nc (x%y)⟩,⟨zn,40,nc (x/y)⟩,⟨L,40,nc y⟩,⟨F,40,nc (x%y)⟩,⟨S,40,[uV 0,eS]⟩,⟨X,42,ic b⟩,⟨Y,42,ic a⟩] [] [fun C=>Tab C]/\p<18446744073709551616/\q<18446744073709551616/\MX p q=MX (ab a) (ab b)) _ ⟨sp,(x%y),zp,rfl,rfl,d.to _ _,(by have B:=z aM;omega),(by have B:=z aM;omega),(by rw[(z aM).1];exact D)⟩ ?_);rintro _ _ _ ⟨p,q,_,bf,rfl,d,V,hq,hG⟩;refine cQ (aa d ac ?_);cases O:(decide ((0:Int)<(q:Int)))
   .
    have zl:=oF O;refine lB 53 O (ag (CG.exit ?_))
    show CG _ _ _ _ _ _ _ _
    exact aa d ac (ar 59 d (JY p V _ _ d.g) (fun _ _ d=>lP 4 0 (nc p) d (fun _ d=>ae d [(4,0,2)] (nv p) (congrArg nv (by rw[<-hG,show q=0 by omega,Nh])))))
   have zl:=oT O;refine lB 53 O (ak (cK (kZ (cR 4 [] mixed d ao ?_))));refine eV 0 54 (mV q) (eV 1 55 (mV p) (eV 2 56 (mV q) (eV 3 57 (mV (p%q)) ?_ (hv:=fun _=>aI (ft (t:=38) (u:=38) (x:=.tmp 55) (y:=.tmp 56) (k:=.u64) (a:=(p:Int)) (b:=(q:Int)) kR kR kR oM _) (dk p q)))));refine bP d (fun _ zq d=>tV 4 10 (mV q) (tV 5 12 (mV (p%q)) (tD ?_)));intro a_ K;refine ⟨_,_,?_,⟨q,p%q,zq,rfl,rfl,d.to _ _,hq,(by have:=LX p (show 0<q by omega);omega),(by rw[j0];exact hG)⟩,K.to _ kR⟩;have bd:=LX p (show 0<q by omega)
   omega
  have zk:=eq_of_beq Q;exact lB 39 Q (ak (aa d [.o (nv y) 2 0 2] (lP 4 0 (nc y) d (fun _ d=>ae d [(4,0,2)] (nv y) (congrArg nv (by rw[<-D,show (x%y)=0 by omega,Nh]))))))
 have zj:=eq_of_beq zb;exact lB 26 zb (ak (aa d [.o (nv x) 0 0 2] (lP 2 0 (nc x) d (fun _ d=>ae d [(2,0,2)] (nv x) (congrArg nv (by rw[<-J,show y=0 by omega,Nh]))))))
theorem rB (z:Int)(b:Nat)(a:(b:Int)∣z):bu (decide (z.sign<0)) (ab z/b)=z/b:=by
 obtain ⟨k,rfl⟩:=a
 rcases Ga b with hb|hb
 ·subst hb;simp[bu,ab]
 have e1:ab ((b:Int)*k)/b=k.natAbs:=by
  unfold ab
  rw[Ni,Nj,Nb _ hb]
 have e2:((b:Int)*k)/b=k:=Nk _ oM;have c:((b:Int)*k).sign=k.sign:=by rw[Int.sign_mul,Int.sign_natCast_of_ne_zero oM,Int.one_mul]
 rw[e1,e2,c]
 unfold bu
 rcases Nl k 0 with h|h|h
 ·rw[Nm h];simp;omega
 ·subst h;simp
 ·rw[Np h];simp;omega
theorem li (a b:Rat):∀ g h:Nat,∀ up:Int,g=MX a.den b.den->up=a.num*((b.den/g:Nat):Int)+b.num*((a.den/g:Nat):Int)->h=MX (ab up) g ->
    (a+b).num=up/h/\(a+b).den=(a.den/g)*(b.den/h)/\(h:Int)∣up/\h∣b.den/\0<h/\0<g:=by
  intro g h up c d f;have j:0<g:=by rw[c];exact Nat.gcd_pos_of_pos_left _ a.den_pos
  have u:0<h:=by rw[f];exact Nq _ j
  have y:g∣a.den:=by rw[c];exact Nr _ _
  have l:g∣b.den:=by rw[c];exact Ns _ _
  have p:h∣g:=by rw[f];exact Ns _ _
  have o:(h:Int)∣up:=by
    have h1:h∣up.natAbs:=by rw[f];exact Nr _ _
    exact Nt (Nu.2 h1) (Nv.2 (Nx _))
  have i:h∣b.den:=Nat.dvd_trans p l;refine ⟨?_,?_,o,i,u,j⟩
  . show (Ny a b).num=_
    delta Ny
    dsimp only
    split
    . rename_i h1
      have x:g=1:=by rw[c];exact h1
      dsimp only
      clear h1 c
      subst x;have e:h=1:=by rw[f];simp
      rw[e,d];simp
    . subst c d f
      dsimp only[Nz]
      split
      . rename_i h1
        dsimp only
        unfold ab
        rw[h1];simp
      . dsimp only
        rw[NB]
        rfl
  . show (Ny a b).den=_
    delta Ny
    dsimp only
    split
    . rename_i h1
      have x:g=1:=by rw[c];exact h1
      dsimp only
      clear h1 c
      subst x;have e:h=1:=by rw[f];simp
      rw[e];simp
    . subst c d f
      dsimp only[Nz]
      split
      . rename_i h1
        dsimp only
        unfold ab
        rw[h1];simp
      . dsimp only
        rw[NC]
        unfold ab at *
        rw[Nat.mul_div_assoc _ i]
theorem lg (a b:Rat):∀ g h:Nat,g=MX (ab a.num) b.den->h=MX (ab b.num) a.den ->
  (a*b).num=(a.num/g)*(b.num/h)/\(a*b).den=(a.den/h)*(b.den/g)/\(g:Int)∣a.num/\(h:Int)∣b.num/\0<g/\0<h:=by
 intro g h c d;have e:0<g:=by rw[c];exact Nq _ b.den_pos
 have f:0<h:=by rw[d];exact Nq _ a.den_pos
 have j:(g:Int)∣a.num:=by
  have h1:g∣a.num.natAbs:=by rw[c];exact Nr _ _
  exact Nt (Nu.2 h1) (Nv.2 (Nx _))
 have i:(h:Int)∣b.num:=by
  have h1:h∣b.num.natAbs:=by rw[d];exact Nr _ _
  exact Nt (Nu.2 h1) (Nv.2 (Nx _))
 refine ⟨?_,?_,j,i,e,f⟩
 ·show (ND a b).num=_
  delta ND
  dsimp only
  rw[NB,NB,c,d];rfl
 ·show (ND a b).den=_
  delta ND
  dsimp only
  rw[NC,NC,c,d];rfl
theorem iQ (n:Int)(d:Nat)(a:0<d):(mkRat n d).num=n/(MX (ab n) d:Nat)/\(mkRat n d).den=d/MX (ab n) d/\((MX (ab n) d:Nat):Int)∣n/\0<MX (ab n) d:=by
 have b:((MX (ab n) d:Nat):Int)∣n:=by
  have h1:MX (ab n) d∣n.natAbs:=Nr _ _;exact Nt (Nu.2 h1) (Nv.2 (Nx _))
 unfold mkRat
 rw[dif_neg oM,Rat.normalize_eq];exact ⟨rfl,rfl,b,Nq _ a⟩
theorem uE (b:Rat)(h:b.num≠0):(b⁻¹).num=bu (decide (b.num.sign<0)) b.den/\(b⁻¹).den=ab b.num:=by
 have e:b⁻¹=Rat.inv b:=rfl;rw[e]
 delta Rat.inv
 split
 ·rename_i h1
  rw[Nm h1];simp[bu,ab]
 ·split
  ·rename_i h1
   rw[Np h1];simp[bu,ab]
  ·omega
def LQ (k:Nat)(q:Rat):Prop:=(wds (ab q.num)).length<=k/\(wds q.den).length<=k
theorem fb (n:Nat)(w:World)(h:Hp)(g:G w h):CV 50 #[.bool false,nv n] w h (iv (n:Int)):=Bd n w h g
theorem jV (x y:Int)(d:Nat)(c:d=MX (ab x) (ab y))(a:(wds (ab x)).length<=1000000000)(b:(wds (ab y)).length<=1000000000)(w:World)(h:Hp)(g:G w h)(e:Tab h):CV 126 #[iv x,iv y] w h (nv d):=by
 subst c;exact Kt x y a b w h g e
theorem xR {n:Nat}:nb n=1↔n=1:=by
 rcases Ga n with h|h
 ·subst h;simp[nb]
 ·have h1:=cB h
  constructor
  ·intro e;rw[e] at h1;omega
  ·intro e;subst e;rfl
theorem rq {n:Nat}:nb n=0↔n=0:=by
 rcases mX n with ⟨h1,h2⟩|⟨h1,h2⟩<;>omega
theorem lz {q:Rat}(h:q.den=1):qd q=0:=by unfold qd;rw[if_pos h]
theorem Fb {q:Rat}(h:q.den≠1):qd q=q.den:=by unfold qd;rw[if_neg h]
theorem CS {q:Rat}:qd q=0↔q.den=1:=by
 unfold qd
 have:=q.den_pos
 split<;>omega
theorem Ll (q:Rat):(((nb (qd q):Nat):Int) == (0:Int))=decide (q.den=1):=by
 rw[Bool.eq_iff_iff]
 simp only[beq_iff_eq,decide_eq_true_eq]
 rw[<-CS,<-rq]
 omega
theorem jv {q:Rat}{z:Int}{d:Nat}(hz:q.num=z)(a:qd q=d):Value.agg #[.bool (af z),.int .u64 (lo (ab z)),.string (hi (ab z)),.int .u64 (lo d),.string (hi d)]=qv q:=by subst hz a;rfl
theorem LQ.qd {k:Nat}{q:Rat}(h:LQ k q):(wds (qd q)).length<=k:=by
 unfold Go.Proofs.YtnphimgdpdiekaaGreatDoor.qd
 split
 ·exact MG _
 ·exact h.2
theorem JR (a:Rat)(ha:LQ 1000000000 a)(w:World)(h:Hp)(g:G w h):CV 127 #[iv a.num,nv a.den] w h (qv a):=by
 have b:=sS g;obtain ⟨e,f⟩:=ha;have c:=@xR a.den;refine go Tryz.func127 [(0,iv a.num),(1,nv a.den)] rfl (ax (lA 2 42 (ic a.num) b (fun z w2 u b=>lA 3 40 (nc a.den) b (fun y x p b=>lA 4 44 a6 b (fun l j i b=>ah (aa b [.o (nv a.den) 1 0 2] (ar 6 b (fZ a.den cX _ _ b.g) (fun _ _ b=>?_))))))));cases za:(((nb a.den:Nat):Int) == (1:Int))
 .
  have zb:=aj za;exact lB 7 za (ag (cK (aa b [.o (iv a.num) 2 0 3,.o (nv a.den) 1 0 2,.v (.agg #[.bool (af a.num),uV (lo (ab a.num)),.string (hi (ab a.num)),uV (lo a.den),.string (hi a.den)])] (lP 0 0 ([.bool (af a.num),uV (lo (ab a.num)),.string (hi (ab a.num)),uV (lo a.den),.string (hi a.den)]) b (fun _ b=>ae b [(0,0,5)] (.agg #[.bool (af a.num),uV (lo (ab a.num)),.string (hi (ab a.num)),uV (lo a.den),.string (hi a.den)]) (jv (q:=a) (d:=a.den) rfl (Fb oM)))))))
 have zb:=eq_of_beq za;exact lB 7 za (ak (aa b [.o (iv a.num) 2 0 3,.v (.agg #[.bool (af a.num),uV (lo (ab a.num)),.string (hi (ab a.num)),uV 0,eS])] (lP 0 0 ([.bool (af a.num),uV (lo (ab a.num)),.string (hi (ab a.num)),uV 0,eS]) b (fun _ b=>ae b [(0,0,5)] (.agg #[.bool (af a.num),uV (lo (ab a.num)),.string (hi (ab a.num)),uV 0,eS]) (jv (q:=a) (d:=0) rfl (lz oM))))))
theorem ku (q:Rat)(z:Int)(d:Nat)(hz:q.num=z)(a:d=q.den)(hq:LQ 1000000000 q)(w:World)(h:Hp)(g:G w h):CV 127 #[iv z,nv d] w h (qv q):=by
 subst hz a;exact JR q hq w h g
theorem ck (z:Int)(g:Nat)(a:(g:Int)∣z):ab (z/g)<=ab z:=by
 unfold ab
 rcases Ga g with h|h
 ·subst h;simp
 ·obtain ⟨k,rfl⟩:=a
  rw[Nk _ oM,Ni,Nj];exact Nc _ h
theorem ir (a b:Nat)(B:0<b)(i:(wds a).length<=1000000000)(e:(wds b).length<=1000000000)(w:World)(h:Hp)(g:G w h):CV 129 #[nv a,nv b] w h (nv (a/b)):=by
 have d:=sS g;have f:=@xR b;refine go Tryz.func129 [(0,nv a),(1,nv b)] rfl (ax (lA 2 40 (nc a) d (fun F w2 z d=>lA 3 40 (nc b) d (fun D C y d=>lA 4 40 ([uV 0,eS]) d (fun x u p d=>ah (aa d [.o (nv b) 1 0 2] (ar 9 d (fZ b cX _ _ d.g) (fun _ _ d=>?_))))))));cases za:(((nb b:Nat):Int) == (1:Int))
 .
  have zb:=aj za;exact lB 10 za (ag (cK (aa d [.o (nv a) 2 0 2,.o (nv b) 1 0 2] (ar 15 d (JM a b oM aM aM _ _ d.g) (fun _ _ d=>lL d [.c,.v (nv (a/b)),.v (nv (a%b)),.v qT] (lA 5 40 ([uV 0,eS]) d (fun j _ _ d=>lA 6 40 ([uV 0,eS]) d (fun l _ _ d=>lP 1 0 (nc (a/b)) d (fun _ d=>lP 0 0 (nc (a%b)) d (fun _ d=>lL d ac (aG (lL d [.o (nv (a/b)) 1 0 2] (lP 2 0 (nc (a/b)) d (fun _ d=>ae d [(2,0,2)] (nv (a/b)) rfl))))))))))))))
 have zb:=eq_of_beq za;exact lB 10 za (ak (aa d [.o (nv a) 2 0 2] (lP 0 0 (nc a) d (fun _ d=>ae d [(0,0,2)] (nv a) (by rw[show b=1 by omega,Nat.div_one])))))
theorem nh (z:Int)(b:Nat)(u:0<b)(e:(b:Int)∣z)(c:(wds (ab z)).length<=1000000000)(d:(wds b).length<=1000000000)(w:World)(h:Hp)(g:G w h):CV 128 #[iv z,nv b] w h (iv (z/b)):=by
 have a:=sS g;have f:(wds (ab z/b)).length<=1000000000:=aw (LN _ _) c;refine go Tryz.func128 [(0,iv z),(1,nv b)] rfl (ax (lA 2 42 (ic z) a (fun B w2 p a=>lA 3 40 (nc b) a (fun y x o a=>lA 4 42 ([qF,uV 0,eS]) a (fun l j i a=>ah (cR 8 [] mixed a ao ?_))))));exact eO 0 5 [(2,0,3)] (iv z) a (eO 3 8 [(2,0,3)] (iv z) a (eO 5 10 [(1,0,2)] (nv b) a (au 1 6 a (fun _ _ a=>mn z cX _ _ a.g) (fun _ _ a=>eV 2 7 (.bool (decide (((z).sign:Int)<(0:Int)))) (au 4 9 a (fun _ _ a=>xa z _ _ a.g) (fun _ _ a=>au 6 11 a (fun _ _ a=>ir (ab z) b aM cX cX _ _ a.g) (fun _ _ a=>au 7 12 a (fun _ _ a=>gh (decide (((z).sign:Int)<(0:Int))) ((ab z)/b) cX _ _ a.g) (fun _ _ a=>bP a (fun _ _ a=>tP 8 0 0 (ic (bu (decide (((z).sign:Int)<(0:Int))) ((ab z)/b))) a (fun _ a=>tN (kX (a.ret [(0,0,3)] (iv (bu (decide (((z).sign:Int)<(0:Int))) ((ab z)/b))) (congrArg iv (rB z b e))))))))))))))
theorem iN (z:Int)(d:Nat)(e:(wds (ab z)).length+(wds d).length<=1000000000)(w:World)(h:Hp)(g:G w h):CV 125 #[iv z,nv d] w h (iv (z*d)):=by
 have a:=sS g;refine go Tryz.func125 [(0,iv z),(1,nv d)] rfl (ax (lA 2 42 (ic z) a (fun o w2 p a=>lA 3 40 (nc d) a (fun f b i a=>lA 4 42 ([qF,uV 0,eS]) a (fun c l j a=>ah (cR 4 [] mixed a ao ?_))))));exact eO 0 5 [(2,0,3)] (iv z) a (eO 1 6 [(1,0,2)] (nv d) a (au 2 7 a (fun _ _ a=>fb d _ _ a.g) (fun _ _ a=>au 3 8 a (fun _ _ a=>Eg z (d:Int) cX _ _ a.g) (fun _ _ a=>bP a (fun _ _ a=>tP 4 0 0 (ic (z*(d:Int))) a (fun _ a=>tN (kX (a.ret [(0,0,3)] (iv (z*(d:Int))) rfl))))))))
theorem mC (a:Rat)(ha:LQ 100000000 a)(w:World)(h:Hp)(g:G w h):CV 117 #[qv a] w h (.bool (decide (a.den=1))):=by
 have b:=sS g;have e:=ha.qd;exact go Tryz.func117 [(0,qv a)] rfl (ax (lA 1 44 (qc a) b (fun d w2 j b=>lL b ac (aG (lL b [.v (qP d 3),.o (nv (qd a)) 0 3 2] (ar 5 b (fZ (qd a) cX _ _ b.g) (fun f i b=>lL b [.v (.bool (((nb (qd a):Nat):Int) == (0:Int))),.c] (ae b [] (.bool (((nb (qd a):Nat):Int) == (0:Int))) (congrArg Value.bool (Ll a))))))))))
theorem fI (a:Rat)(ha:LQ 100000000 a)(w:World)(h:Hp)(g:G w h):CV 71 #[qv a] w h (nv a.den):=by
 have b:=sS g;refine go Tryz.func71 [(0,qv a)] rfl (ax (lA 1 44 (qc a) b (fun e w2 u b=>lA 2 40 ([uV 0,eS]) b (fun l f p b=>ah (aa b [.o (qv a) 1 0 5] (ar 4 b (mC a aM _ _ b.g) (fun i j b=>?_)))))));cases c:(decide (a.den=1))
 .
  have d:=oF c;exact ag (cK (aa b [.v (qP e 3),.o (nv (qd a)) 1 3 2] (lP 0 0 (nc (qd a)) b (fun _ b=>ae b [(0,0,2)] (nv (qd a)) (by rw[Fb (by simpa using (by assumption:decide (a.den=1)=false))])))))
 have d:=oT c;exact ak (ax (ar 5 b (JY 1 oM _ _ b.g) (fun _ _ b=>lP 0 0 (nc 1) b (fun _ b=>ae b [(0,0,2)] (nv 1) (by rw[show a.den=1 by simpa using (by assumption:decide (a.den=1)=true)])))))
theorem J1 (a:Rat)(w:World)(h:Hp)(g:G w h):CV 69 #[qv a] w h (iv a.num):=by
 have b:=sS g;exact go Tryz.func69 [(0,qv a)] rfl (ax (lA 1 44 (qc a) b (fun c w2 j b=>lA 2 42 ([qF,uV 0,eS]) b (fun f d i b=>aG (lL b [.v (pB c),.o (iv a.num) 1 0 3] (lP 0 0 (ic a.num) b (fun e b=>ae b [(0,0,3)] (iv a.num) rfl)))))))
theorem jl (a:Rat)(ha:LQ 100000000 a)(w:World)(h:Hp)(g:G w h):CV 83 #[qv a] w h (iV a.num.sign):=by
 have b:=sS g;obtain ⟨c,d⟩:=ha;exact go Tryz.func83 [(0,qv a)] rfl (ax (lA 1 44 (qc a) b (fun e w2 j b=>lL b ac (aG (lL b [.v (pB e),.o (iv a.num) 0 0 3] (ar 5 b (mn a.num cX _ _ b.g) (fun f i b=>lL b ac (ae b [] (iV ((a.num).sign)) rfl))))))))
theorem xO (z:Int)(h0 : -9223372036854775808<=z)(h1:z<=9223372036854775807)(w:World)(h:Hp)(g:G w h):CV 31 #[iV z] w h (qv (z:Rat)):=by
 have a:=sS g;exact go Tryz.func31 [(0,iV z)] rfl (ax (lA 2 44 a6 a (fun f w2 i a=>aG (lL a ac (ar 4 a (Lc z oM oM _ _ a.g) (fun c e a=>lL a [.v (.agg #[.bool (af z),uV (lo (ab z)),.string (hi (ab z)),uV 0,eS])] (lP 0 0 ([.bool (af z),uV (lo (ab z)),.string (hi (ab z)),uV 0,eS]) a (fun b a=>ae a [(0,0,5)] (.agg #[.bool (af z),uV (lo (ab z)),.string (hi (ab z)),uV 0,eS]) (jv (d:=0) (NE z) (lz (NF z)))))))))))
theorem IG (a:Rat)(ha:LQ 100000000 a)(w:World)(h:Hp)(g:G w h):CV 297 #[qv a] w h (qv (-a)):=by
 have b:=sS g;obtain ⟨d,e⟩:=ha;refine go Tryz.func297 [(0,qv a)] rfl (ax (lA 1 44 (qc a) b (fun c w2 u b=>lA 2 44 a6 b (fun o f p b=>ah (cR 6 [] mixed b ao ?_)))));exact eV 0 3 (pB c) (eO 1 4 [(1,0,3)] (iv a.num) b (eV 3 6 (qP c 3) (eO 4 7 [(1,3,2)] (nv (qd a)) b (au 2 5 b (fun _ _ b=>Ih a.num cX _ _ b.g) (fun j l b=>eV 5 8 (.agg #[.bool (af (-a.num)),uV (lo (ab (-a.num))),.string (hi (ab (-a.num))),uV (lo (qd a)),.string (hi (qd a))]) (bP b (fun i _ b=>tP 6 0 0 ([.bool (af (-a.num)),uV (lo (ab (-a.num))),.string (hi (ab (-a.num))),uV (lo (qd a)),.string (hi (qd a))]) b (fun _ b=>tN (kX (b.ret [(0,0,5)] (.agg #[.bool (af (-a.num)),uV (lo (ab (-a.num))),.string (hi (ab (-a.num))),uV (lo (qd a)),.string (hi (qd a))]) (jv (NG a) (by unfold qd;rw[NH]))))))))))))
theorem tg (z:Int)(d:Nat)(p:0<d)(l:(wds (ab z)).length<=1000000000)(e:(wds d).length<=1000000000)(w:World)(h:Hp)(g:G w h)(u:Tab h):CV 88 #[iv z,nv d] w h (qv (mkRat z d)):=by
 have a:=((sS g).aB u);obtain ⟨b,c,i,j⟩:=iQ z d p;obtain ⟨q,hq⟩:∃ q,q=MX (ab z) d:=⟨_,rfl⟩;rw[<-hq] at b c i j
 have x:(wds q).length<=1000000000:=aw (by rw[hq];exact NI _ p) e;have y:LQ 1000000000 (mkRat z d):=⟨by rw[b];exact aw (ck z q i) l,by rw[c];exact aw (LN _ _) e⟩;refine go Tryz.func88 [(0,iv z),(1,nv d)] rfl (ax (lA 2 42 (ic z) a (fun L w2 I a=>lA 3 40 (nc d) a (fun K J H a=>lA 4 44 a6 a (fun F D C a=>ah ?_)))));have o:=a;refine cR 5 [⟨4,5,.cells (Nf [uV 0,eS]) 40 (0,0)⟩] mixed a (bv (eg kR (fun _ _=>by kernel_rfl)) ao) (eO 0 6 [(2,0,3)] (iv z) a (eO 1 7 [(1,0,2)] (nv d) a (au 2 8 a (fun _ _ a=>fb d _ _ a.g) (fun _ _ a=>au 3 9 a (fun _ _ a=>jV z (d:Int) q (by first|assumption|exact hq) cX (show (wds d).length<=1000000000 by first|assumption|omega) _ _ a.g a.f.1) (fun _ _ a=>f0 [] o a 40 [uV 0,eS] (fun _ _ B a=>tP 5 0 0 (nc q) a (fun _ a=>tN (cQ (cR 7 [] mixed a ao ?_)))))))));exact eO 0 10 [(3,0,3)] (iv z) a (eO 1 11 [(0,0,2)] (nv q) a (eO 3 13 [(2,0,2)] (nv d) a (eO 4 14 [(0,0,2)] (nv q) a (au 2 12 a (fun _ _ a=>nh z q aM aM cX cX _ _ a.g) (fun _ _ a=>au 5 15 a (fun _ _ a=>ir d q aM cX cX _ _ a.g) (fun _ _ a=>au 6 16 a (fun _ _ a=>ku (mkRat z d) (z/(q:Int)) (d/q) (by first|assumption|exact b|exact (b).symm) (by first|assumption|exact c.symm) aM _ _ a.g) (fun _ _ a=>bP a (fun _ _ a=>tP 7 1 0 (qc (mkRat z d)) a (fun _ a=>tN (kX (a.ret [(1,0,5)] (qv (mkRat z d)) rfl)))))))))))
theorem dW (a:Rat)(ha:LQ 100000000 a)(h1:a.den=1)(w:World)(h:Hp)(g:G w h):CV 117 #[qv a] w h (.bool true):=by
 have:=mC a ha w h g;rwa [decide_eq_true h1] at this
theorem fT (a:Rat)(ha:LQ 100000000 a)(h1:a.den≠1)(w:World)(h:Hp)(g:G w h):CV 117 #[qv a] w h (.bool false):=by
 have:=mC a ha w h g;rwa [decide_eq_false h1] at this
theorem E4 (x y z:Int)(e:z=x+y)(a:(wds (ab x)).length+(wds (ab y)).length<=999999999)(w:World)(h:Hp)(g:G w h):CV 298 #[iv x,iv y] w h (iv z):=by
 subst e;exact IP x y a w h g
theorem iU (x y:Int):(wds (ab (x*y))).length<=(wds (ab x)).length+(wds (ab y)).length:=by
 have:ab (x*y)=ab x*ab y:=Ni x y;rw[this];exact dq
theorem dL (x:Int)(d:Nat):(wds (ab (x*((d:Nat):Int)))).length<=(wds (ab x)).length+(wds d).length:=iU x (d:Int)
theorem rx (x y:Int):(wds (ab (x+y))).length<=(wds (ab x)).length+(wds (ab y)).length+1 :=
 e4 (db (show ab (x+y)<=ab x+ab y from NJ x y)) kP
theorem jn {a b:Rat}(ha:a.den=1)(c:b.den=1):(a+b).num=a.num+b.num/\(a+b).den=1:=by
 obtain ⟨e1,e2,h,d,f,e⟩:=li a b 1 1 (a.num+b.num) (by rw[ha,c];rfl) (by rw[ha,c];simp) (by simp);rw[ha,c] at e2
 exact ⟨by simpa using e1,by simpa using e2⟩
theorem ji {a b:Rat}(ha:a.den=1)(c:b.den=1):(a*b).num=a.num*b.num/\(a*b).den=1:=by
 obtain ⟨e1,e2,h,d,f,e⟩:=lg a b 1 1 (by rw[c];simp) (by rw[ha];simp);rw[ha,c] at e2
 exact ⟨by simpa using e1,by simpa using e2⟩
theorem GB (a b:Rat)(ha:LQ 100000000 a)(x:LQ 100000000 b)(i:a.den=1)(f:b.den=1)(w:World)(h:Hp)(g:G w h)(p:Tab h):CV 294 #[qv a,qv b] w h (qv (a+b)):=by
 have e:=((sS g).aB p);have l:=ha;have j:=x;obtain ⟨B,D⟩:=l;obtain ⟨u,C⟩:=j;exact go Tryz.func294 [(0,qv a),(1,qv b)] rfl (ax (lA 2 44 (qc a) e (fun z w2 K e=>lA 3 44 (qc b) e (fun y L J e=>lA 4 44 a6 e (fun I H F e=>ah (aa e [.o (qv a) 2 0 5] (ar 11 e (dW a aM aM _ _ e.g) (fun _ _ e=>lL e [.c,.o (qv b) 1 0 5] (ar 14 e (dW b aM aM _ _ e.g) (fun _ _ e=>lL e [.v qT] (ak (aa e [.v (pB z),.o (iv a.num) 2 0 3,.v (pB y),.o (iv b.num) 1 0 3] (ar 20 e (IP a.num b.num cX _ _ e.g) (fun _ _ e=>lL e [.v (.agg #[.bool (af (a.num+b.num)),uV (lo (ab (a.num+b.num))),.string (hi (ab (a.num+b.num))),uV 0,eS])] (lP 0 0 ([.bool (af (a.num+b.num)),uV (lo (ab (a.num+b.num))),.string (hi (ab (a.num+b.num))),uV 0,eS]) e (fun _ e=>ae e [(0,0,5)] (.agg #[.bool (af (a.num+b.num)),uV (lo (ab (a.num+b.num))),.string (hi (ab (a.num+b.num))),uV 0,eS]) (jv (d:=0) (jn i f).1 (lz (jn i f).2))))))))))))))))))
theorem FW (a b:Rat)(ha:LQ 100000000 a)(B:LQ 100000000 b)(V:a.den≠1)(w:World)(h:Hp)(g:G w h)(I:Tab h):CV 294 #[qv a,qv b] w h (qv (a+b)):=by
 have c:=((sS g).aB I);have C:=ha;have z:=B;obtain ⟨ha1,u⟩:=ha;obtain ⟨O,p⟩:=B;obtain ⟨q,hq⟩:∃ q,q=MX a.den b.den:=⟨_,rfl⟩;obtain ⟨up,hup⟩:∃ up,up=a.num*((b.den/q:Nat):Int)+b.num*((a.den/q:Nat):Int):=⟨_,rfl⟩;obtain ⟨r,hr⟩:∃ r,r=MX (ab up) q:=⟨_,rfl⟩;obtain ⟨e,l,x,S,F,hq0⟩:=li a b q r up hq hup hr;have y:(wds q).length<=100000000:=aw (by rw[hq];exact Nd _ a.den_pos) u;have hrl:(wds r).length<=100000000:=aw (by rw[hr];exact NI _ hq0) y;have W:(wds (a.den/q)).length<=100000000:=aw (LN _ _) u;have Z:(wds (b.den/q)).length<=100000000:=aw (LN _ _) p;have hbr:(wds (b.den/r)).length<=100000000:=aw (LN _ _) p;have hx1:=dL a.num (b.den/q);have Y:=dL b.num (a.den/q);have U:(wds (ab up)).length<=999999999:=e4 (by rw[hup];exact rx _ _) oM;have M:=@dq (a.den/q) (b.den/r);have Q:LQ 1000000000 (a+b):=⟨by rw[e];exact aw (ck up r x) oM,by rw[l];omega⟩;have ha:=C;have B:=z;refine go Tryz.func294 [(0,qv a),(1,qv b)] rfl (ax (lA 2 44 (qc a) c (fun X w2 h3 c=>lA 3 44 (qc b) c (fun D w5 h6 c=>lA 4 44 a6 c (fun J w8 h9 c=>ah (aa c [.o (qv a) 2 0 5] (ar 11 c (fT a aM aM _ _ c.g) (fun _ _ c=>lL c ac (lG 13 ?_)))))))));refine lG 14 (lL c [.v qF] (ag (cK (cQ ?_))));have d:=c;refine cR 8 [⟨7,5,.cells (Nf [uV 0,eS]) 40 (0,0)⟩] mixed c (bv (eg kR (fun _ _=>by kernel_rfl)) ao) (eO 0 22 [(2,0,5)] (qv a) c (eO 3 25 [(1,0,5)] (qv b) c (au 1 23 c (fun _ _ c=>fI a aM _ _ c.g) (fun _ _ c=>au 2 24 c (fun _ _ c=>fb a.den _ _ c.g) (fun _ _ c=>au 4 26 c (fun _ _ c=>fI b aM _ _ c.g) (fun _ _ c=>au 5 27 c (fun _ _ c=>fb b.den _ _ c.g) (fun _ _ c=>au 6 28 c (fun _ _ c=>jV (a.den:Int) (b.den:Int) q (by first|assumption|exact hq) (show (wds a.den).length<=1000000000 by first|assumption|omega) (show (wds b.den).length<=1000000000 by first|assumption|omega) _ _ c.g c.f.1) (fun _ _ c=>f0 [] d c 40 [uV 0,eS] (fun _ _ K c=>tP 8 0 0 (nc q) c (fun _ c=>tN (cQ ?_)))))))))));have d:=c;refine Fa 10 [⟨8,6,.cells (Nf [uV 0,eS]) 40 (0,0)⟩,⟨9,7,.cells (Nf [uV 0,eS]) 40 (0,0)⟩] [] mixed c (bv (eg kR (fun _ _=>by kernel_rfl)) (bv (eg kR (fun _ _=>by kernel_rfl)) ao)) (eO 0 29 [(3,0,5)] (qv a) c (eO 2 31 [(0,0,2)] (nv q) c (xn 4 33 [(2,0,5)] (qv b) d c (xn 6 35 [(0,0,2)] (nv q) d c (au 1 30 c (fun _ _ c=>fI a aM _ _ c.g) (fun _ _ c=>au 3 32 c (fun _ _ c=>ir a.den q aM cX cX _ _ c.g) (fun _ _ c=>au 5 34 c (fun _ _ c=>fI b aM _ _ c.g) (fun _ _ c=>au 7 36 c (fun _ _ c=>ir b.den q aM cX cX _ _ c.g) (fun _ _ c=>Hg d c 40 [uV 0,eS] 40 [uV 0,eS] (fun _ _ za L j i c=>tP 10 0 0 (nc (a.den/q)) c (fun _ c=>?_) (hz:=i8 j)))))))))));refine tP 11 1 0 (nc (b.den/q)) c (fun _ c=>?_) (hz:=i8 i);refine tN (cQ ?_);have d:=c;refine cR 10 [⟨9,8,.cells (Nf [qF,uV 0,eS]) 42 (0,0)⟩] mixed c (bv (eg kR (fun _ _=>by kernel_rfl)) ao) (eV 0 37 (pB X) (eO 1 38 [(5,0,3)] (iv a.num) c (eO 2 39 [(1,0,2)] (nv (b.den/q)) c (eV 4 41 (pB D) (eO 5 42 [(4,0,3)] (iv b.num) c (eO 6 43 [(0,0,2)] (nv (a.den/q)) c (au 3 40 c (fun _ _ c=>iN a.num (b.den/q) cX _ _ c.g) (fun _ _ c=>au 7 44 c (fun _ _ c=>iN b.num (a.den/q) cX _ _ c.g) (fun _ _ c=>au 8 45 c (fun _ _ c=>E4 (a.num*(((b.den/q):Nat):Int)) (b.num*(((a.den/q):Nat):Int)) up hup oM _ _ c.g) (fun _ _ c=>f0 [] d c 42 [qF,uV 0,eS] (fun _ _ zb c=>tP 10 0 0 (ic up) c (fun _ c=>tN (cQ ?_)))))))))))));have d:=c;refine cR 5 [⟨4,9,.cells (Nf [uV 0,eS]) 40 (0,0)⟩] mixed c (bv (eg kR (fun _ _=>by kernel_rfl)) ao) (eO 0 46 [(0,0,3)] (iv up) c (eO 1 47 [(3,0,2)] (nv q) c (au 2 48 c (fun _ _ c=>fb q _ _ c.g) (fun _ _ c=>au 3 49 c (fun _ _ c=>jV up (q:Int) r (by first|assumption|exact hr) cX (show (wds q).length<=1000000000 by first|assumption|omega) _ _ c.g c.f.1) (fun _ _ c=>f0 [] d c 40 [uV 0,eS] (fun _ _ H c=>tP 5 0 0 (nc r) c (fun _ c=>tN (bH [(3,pB D),(4,pB J),(6,pB za),(8,pB zb),(9,pB H)] ?_))))))));refine cQ (cR 10 [] mixed c ao ?_);exact eO 0 50 [(1,0,3)] (iv up) c (eO 1 51 [(0,0,2)] (nv r) c (eO 3 53 [(2,0,2)] (nv (a.den/q)) c (eO 4 54 [(6,0,5)] (qv b) c (eO 6 56 [(0,0,2)] (nv r) c (au 2 52 c (fun _ _ c=>nh up r aM aM cX cX _ _ c.g) (fun _ _ c=>au 5 55 c (fun _ _ c=>fI b aM _ _ c.g) (fun _ _ c=>au 7 57 c (fun _ _ c=>ir b.den r aM cX cX _ _ c.g) (fun _ _ c=>au 8 58 c (fun _ _ c=>qJ (a.den/q) (b.den/r) cX cX _ _ c.g) (fun _ _ c=>au 9 59 c (fun _ _ c=>ku (a+b) (up/(r:Int)) ((a.den/q)*(b.den/r)) (by first|assumption|exact e|exact (e).symm) (by first|assumption|exact l.symm) aM _ _ c.g) (fun _ _ c=>bP c (fun _ _ c=>tP 10 5 0 (qc (a+b)) c (fun _ c=>tN (kX (c.ret [(5,0,5)] (qv (a+b)) rfl))))))))))))))
theorem GG (a b:Rat)(ha:LQ 100000000 a)(C:LQ 100000000 b)(W:a.den=1)(I:b.den≠1)(w:World)(h:Hp)(g:G w h)(K:Tab h):CV 294 #[qv a,qv b] w h (qv (a+b)):=by
 have d:=((sS g).aB K);have D:=ha;have B:=C;obtain ⟨ha1,x⟩:=ha;obtain ⟨O,u⟩:=C;obtain ⟨q,hq⟩:∃ q,q=MX a.den b.den:=⟨_,rfl⟩;obtain ⟨up,hup⟩:∃ up,up=a.num*((b.den/q:Nat):Int)+b.num*((a.den/q:Nat):Int):=⟨_,rfl⟩;obtain ⟨r,hr⟩:∃ r,r=MX (ab up) q:=⟨_,rfl⟩;obtain ⟨i,p,y,S,H,hq0⟩:=li a b q r up hq hup hr;have z:(wds q).length<=100000000:=aw (by rw[hq];exact Nd _ a.den_pos) x;have hrl:(wds r).length<=100000000:=aw (by rw[hr];exact NI _ hq0) z;have X:(wds (a.den/q)).length<=100000000:=aw (LN _ _) x;have hbq:(wds (b.den/q)).length<=100000000:=aw (LN _ _) u;have hbr:(wds (b.den/r)).length<=100000000:=aw (LN _ _) u;have hx1:=dL a.num (b.den/q);have Z:=dL b.num (a.den/q);have U:(wds (ab up)).length<=999999999:=e4 (by rw[hup];exact rx _ _) oM;have M:=@dq (a.den/q) (b.den/r);have Q:LQ 1000000000 (a+b):=⟨by rw[i];exact aw (ck up r y) oM,by rw[p];omega⟩;have ha:=D;have C:=B;refine go Tryz.func294 [(0,qv a),(1,qv b)] rfl (ax (lA 2 44 (qc a) d (fun Y w2 h3 d=>lA 3 44 (qc b) d (fun F w5 h6 d=>lA 4 44 a6 d (fun L w8 h9 d=>ah (aa d [.o (qv a) 2 0 5] (ar 11 d (dW a aM aM _ _ d.g) (fun _ _ d=>lL d [.c,.o (qv b) 1 0 5] (ar 14 d (fT b aM aM _ _ d.g) (fun _ _ d=>lL d [.v qF] (ag (cK (cQ ?_)))))))))))));have e:=d;refine cR 8 [⟨7,5,.cells (Nf [uV 0,eS]) 40 (0,0)⟩] mixed d (bv (eg kR (fun _ _=>by kernel_rfl)) ao) (eO 0 22 [(2,0,5)] (qv a) d (eO 3 25 [(1,0,5)] (qv b) d (au 1 23 d (fun _ _ d=>fI a aM _ _ d.g) (fun _ _ d=>au 2 24 d (fun _ _ d=>fb a.den _ _ d.g) (fun _ _ d=>au 4 26 d (fun _ _ d=>fI b aM _ _ d.g) (fun _ _ d=>au 5 27 d (fun _ _ d=>fb b.den _ _ d.g) (fun _ _ d=>au 6 28 d (fun _ _ d=>jV (a.den:Int) (b.den:Int) q (by first|assumption|exact hq) (show (wds a.den).length<=1000000000 by first|assumption|omega) (show (wds b.den).length<=1000000000 by first|assumption|omega) _ _ d.g d.f.1) (fun _ _ d=>f0 [] e d 40 [uV 0,eS] (fun _ _ b26 d=>tP 8 0 0 (nc q) d (fun _ d=>tN (cQ ?_)))))))))));have e:=d;refine Fa 10 [⟨8,6,.cells (Nf [uV 0,eS]) 40 (0,0)⟩,⟨9,7,.cells (Nf [uV 0,eS]) 40 (0,0)⟩] [] mixed d (bv (eg kR (fun _ _=>by kernel_rfl)) (bv (eg kR (fun _ _=>by kernel_rfl)) ao)) (eO 0 29 [(3,0,5)] (qv a) d (eO 2 31 [(0,0,2)] (nv q) d (xn 4 33 [(2,0,5)] (qv b) e d (xn 6 35 [(0,0,2)] (nv q) e d (au 1 30 d (fun _ _ d=>fI a aM _ _ d.g) (fun _ _ d=>au 3 32 d (fun _ _ d=>ir a.den q aM cX cX _ _ d.g) (fun _ _ d=>au 5 34 d (fun _ _ d=>fI b aM _ _ d.g) (fun _ _ d=>au 7 36 d (fun _ _ d=>ir b.den q aM cX cX _ _ d.g) (fun _ _ d=>Hg e d 40 [uV 0,eS] 40 [uV 0,eS] (fun _ _ za V l j d=>tP 10 0 0 (nc (a.den/q)) d (fun _ d=>?_) (hz:=i8 l)))))))))));refine tP 11 1 0 (nc (b.den/q)) d (fun _ d=>?_) (hz:=i8 j);refine tN (cQ ?_);have e:=d;refine cR 10 [⟨9,8,.cells (Nf [qF,uV 0,eS]) 42 (0,0)⟩] mixed d (bv (eg kR (fun _ _=>by kernel_rfl)) ao) (eV 0 37 (pB Y) (eO 1 38 [(5,0,3)] (iv a.num) d (eO 2 39 [(1,0,2)] (nv (b.den/q)) d (eV 4 41 (pB F) (eO 5 42 [(4,0,3)] (iv b.num) d (eO 6 43 [(0,0,2)] (nv (a.den/q)) d (au 3 40 d (fun _ _ d=>iN a.num (b.den/q) cX _ _ d.g) (fun _ _ d=>au 7 44 d (fun _ _ d=>iN b.num (a.den/q) cX _ _ d.g) (fun _ _ d=>au 8 45 d (fun _ _ d=>E4 (a.num*(((b.den/q):Nat):Int)) (b.num*(((a.den/q):Nat):Int)) up hup oM _ _ d.g) (fun _ _ d=>f0 [] e d 42 [qF,uV 0,eS] (fun _ _ zb d=>tP 10 0 0 (ic up) d (fun _ d=>tN (cQ ?_)))))))))))));have e:=d;refine cR 5 [⟨4,9,.cells (Nf [uV 0,eS]) 40 (0,0)⟩] mixed d (bv (eg kR (fun _ _=>by kernel_rfl)) ao) (eO 0 46 [(0,0,3)] (iv up) d (eO 1 47 [(3,0,2)] (nv q) d (au 2 48 d (fun _ _ d=>fb q _ _ d.g) (fun _ _ d=>au 3 49 d (fun _ _ d=>jV up (q:Int) r (by first|assumption|exact hr) cX (show (wds q).length<=1000000000 by first|assumption|omega) _ _ d.g d.f.1) (fun _ _ d=>f0 [] e d 40 [uV 0,eS] (fun _ _ J d=>tP 5 0 0 (nc r) d (fun _ d=>tN (bH [(3,pB F),(4,pB L),(6,pB za),(8,pB zb),(9,pB J)] ?_))))))));refine cQ (cR 10 [] mixed d ao ?_);exact eO 0 50 [(1,0,3)] (iv up) d (eO 1 51 [(0,0,2)] (nv r) d (eO 3 53 [(2,0,2)] (nv (a.den/q)) d (eO 4 54 [(6,0,5)] (qv b) d (eO 6 56 [(0,0,2)] (nv r) d (au 2 52 d (fun _ _ d=>nh up r aM aM cX cX _ _ d.g) (fun _ _ d=>au 5 55 d (fun _ _ d=>fI b aM _ _ d.g) (fun _ _ d=>au 7 57 d (fun _ _ d=>ir b.den r aM cX cX _ _ d.g) (fun _ _ d=>au 8 58 d (fun _ _ d=>qJ (a.den/q) (b.den/r) cX cX _ _ d.g) (fun _ _ d=>au 9 59 d (fun _ _ d=>ku (a+b) (up/(r:Int)) ((a.den/q)*(b.den/r)) (by first|assumption|exact i|exact (i).symm) (by first|assumption|exact p.symm) aM _ _ d.g) (fun _ _ d=>bP d (fun _ _ d=>tP 10 5 0 (qc (a+b)) d (fun _ d=>tN (kX (d.ret [(5,0,5)] (qv (a+b)) rfl))))))))))))))
theorem v8 (a b:Rat)(ha:LQ 100000000 a)(c:LQ 100000000 b)(w:World)(h:Hp)(g:G w h)(d:Tab h):CV 294 #[qv a,qv b] w h (qv (a+b)):=by
 by_cases h1:a.den=1
 ·by_cases h2:b.den=1
  ·exact GB a b ha c h1 h2 w h g d
  ·exact GG a b ha c h1 h2 w h g d
 ·exact FW a b ha c h1 w h g d
theorem HE (a b:Rat)(ha:LQ 100000000 a)(x:LQ 100000000 b)(i:a.den=1)(f:b.den=1)(w:World)(h:Hp)(g:G w h)(p:Tab h):CV 296 #[qv a,qv b] w h (qv (a*b)):=by
 have e:=((sS g).aB p);have l:=ha;have j:=x;obtain ⟨B,D⟩:=l;obtain ⟨u,C⟩:=j;exact go Tryz.func296 [(0,qv a),(1,qv b)] rfl (ax (lA 2 44 (qc a) e (fun z w2 K e=>lA 3 44 (qc b) e (fun y L J e=>lA 4 44 a6 e (fun I H F e=>ah (aa e [.o (qv a) 2 0 5] (ar 8 e (dW a aM aM _ _ e.g) (fun _ _ e=>lL e [.c,.o (qv b) 1 0 5] (ar 11 e (dW b aM aM _ _ e.g) (fun _ _ e=>lL e [.v qT] (ak (aa e [.v (pB z),.o (iv a.num) 2 0 3,.v (pB y),.o (iv b.num) 1 0 3] (ar 17 e (Eg a.num b.num cX _ _ e.g) (fun _ _ e=>lL e [.v (.agg #[.bool (af (a.num*b.num)),uV (lo (ab (a.num*b.num))),.string (hi (ab (a.num*b.num))),uV 0,eS])] (lP 0 0 ([.bool (af (a.num*b.num)),uV (lo (ab (a.num*b.num))),.string (hi (ab (a.num*b.num))),uV 0,eS]) e (fun _ e=>ae e [(0,0,5)] (.agg #[.bool (af (a.num*b.num)),uV (lo (ab (a.num*b.num))),.string (hi (ab (a.num*b.num))),uV 0,eS]) (jv (d:=0) (ji i f).1 (lz (ji i f).2))))))))))))))))))
theorem GL (a b:Rat)(ha:LQ 100000000 a)(z:LQ 100000000 b)(Z:a.den≠1)(w:World)(h:Hp)(g:G w h)(L:Tab h):CV 296 #[qv a,qv b] w h (qv (a*b)):=by
 have c:=((sS g).aB L);have B:=ha;have x:=z;obtain ⟨C,l⟩:=ha;obtain ⟨p,j⟩:=z;obtain ⟨q,hq⟩:∃ q,q=MX (ab a.num) b.den:=⟨_,rfl⟩;obtain ⟨r,hr⟩:∃ r,r=MX (ab b.num) a.den:=⟨_,rfl⟩;obtain ⟨e,i,u,y,hq0,H⟩:=lg a b q r hq hr;have Q:(wds q).length<=100000000:=aw (by rw[hq];exact NI _ b.den_pos) j;have X:(wds r).length<=100000000:=aw (by rw[hr];exact NI _ a.den_pos) l;have U:(wds (ab (a.num/(q:Int)))).length<=100000000:=aw (ck _ _ u) C;have Y:(wds (ab (b.num/(r:Int)))).length<=100000000:=aw (ck _ _ y) p;have K:(wds (a.den/r)).length<=100000000:=aw (LN _ _) l;have W:(wds (b.den/q)).length<=100000000:=aw (LN _ _) j;have O:=@dq (a.den/r) (b.den/q);have I:=iU (a.num/(q:Int)) (b.num/(r:Int));have S:LQ 1000000000 (a*b):=⟨by rw[e];omega,by rw[i];omega⟩;have ha:=B;have z:=x;refine go Tryz.func296 [(0,qv a),(1,qv b)] rfl (ax (lA 2 44 (qc a) c (fun F w2 h3 c=>lA 3 44 (qc b) c (fun D w5 h6 c=>lA 4 44 a6 c (fun M w8 h9 c=>ah (aa c [.o (qv a) 2 0 5] (ar 8 c (fT a aM aM _ _ c.g) (fun _ _ c=>lL c ac (lG 10 ?_)))))))));refine lG 11 (lL c [.v qF] (ag (cK (cQ ?_))));have d:=c;refine cR 7 [⟨6,5,.cells (Nf [uV 0,eS]) 40 (0,0)⟩] mixed c (bv (eg kR (fun _ _=>by kernel_rfl)) ao) (eV 0 19 (pB F) (eO 1 20 [(2,0,3)] (iv a.num) c (eO 2 21 [(1,0,5)] (qv b) c (au 3 22 c (fun _ _ c=>fI b aM _ _ c.g) (fun _ _ c=>au 4 23 c (fun _ _ c=>fb b.den _ _ c.g) (fun _ _ c=>au 5 24 c (fun _ _ c=>jV a.num (b.den:Int) q (by first|assumption|exact hq) cX (show (wds b.den).length<=1000000000 by first|assumption|omega) _ _ c.g c.f.1) (fun _ _ c=>f0 [] d c 40 [uV 0,eS] (fun _ _ J c=>tP 7 0 0 (nc q) c (fun _ c=>tN (cQ ?_))))))))));have d:=c;refine cR 7 [⟨6,6,.cells (Nf [uV 0,eS]) 40 (0,0)⟩] mixed c (bv (eg kR (fun _ _=>by kernel_rfl)) ao) (eV 0 25 (pB D) (eO 1 26 [(2,0,3)] (iv b.num) c (eO 2 27 [(3,0,5)] (qv a) c (au 3 28 c (fun _ _ c=>fI a aM _ _ c.g) (fun _ _ c=>au 4 29 c (fun _ _ c=>fb a.den _ _ c.g) (fun _ _ c=>au 5 30 c (fun _ _ c=>jV b.num (a.den:Int) r (by first|assumption|exact hr) cX (show (wds a.den).length<=1000000000 by first|assumption|omega) _ _ c.g c.f.1) (fun _ _ c=>f0 [] d c 40 [uV 0,eS] (fun _ _ V c=>tP 7 0 0 (nc r) c (fun _ c=>tN (cQ (cR 19 [] mixed c ao ?_)))))))))));refine eV 0 31 (pB F) (eO 1 32 [(4,0,3)] (iv a.num) c (eO 2 33 [(1,0,2)] (nv q) c (eV 4 35 (pB D) (eO 5 36 [(3,0,3)] (iv b.num) c (eO 6 37 [(0,0,2)] (nv r) c (eO 9 40 [(4,0,5)] (qv a) c (eO 11 42 [(0,0,2)] (nv r) c (eO 13 44 [(3,0,5)] (qv b) c (eO 15 46 [(1,0,2)] (nv q) c (au 3 34 c (fun _ _ c=>nh a.num q aM aM cX cX _ _ c.g) (fun _ _ c=>au 7 38 c (fun _ _ c=>nh b.num r aM aM cX cX _ _ c.g) (fun _ _ c=>au 8 39 c (fun _ _ c=>Eg (a.num/(q:Int)) (b.num/(r:Int)) cX _ _ c.g) (fun _ _ c=>au 10 41 c (fun _ _ c=>fI a aM _ _ c.g) (fun _ _ c=>au 12 43 c (fun _ _ c=>ir a.den r aM cX cX _ _ c.g) (fun _ _ c=>au 14 45 c (fun _ _ c=>fI b aM _ _ c.g) (fun _ _ c=>au 16 47 c (fun _ _ c=>ir b.den q aM cX cX _ _ c.g) (fun _ _ c=>au 17 48 c (fun _ _ c=>qJ (a.den/r) (b.den/q) cX cX _ _ c.g) (fun _ _ c=>au 18 49 c (fun _ _ c=>ku (a*b) ((a.num/(q:Int))*(b.num/(r:Int))) ((a.den/r)*(b.den/q)) (by first|assumption|exact e|exact (e).symm) (by first|assumption|exact i.symm) aM _ _ c.g) (fun _ _ c=>bP c (fun _ _ c=>tP 19 2 0 (qc (a*b)) c (fun _ c=>tN (bH [(4,pB M)] ?_))))))))))))))))))))));exact kX (c.ret [(2,0,5)] (qv (a*b)) rfl)
theorem GE (a b:Rat)(ha:LQ 100000000 a)(B:LQ 100000000 b)(hwa:a.den=1)(K:b.den≠1)(w:World)(h:Hp)(g:G w h)(M:Tab h):CV 296 #[qv a,qv b] w h (qv (a*b)):=by
 have d:=((sS g).aB M);have C:=ha;have y:=B;obtain ⟨D,p⟩:=ha;obtain ⟨u,l⟩:=B;obtain ⟨q,hq⟩:∃ q,q=MX (ab a.num) b.den:=⟨_,rfl⟩;obtain ⟨r,hr⟩:∃ r,r=MX (ab b.num) a.den:=⟨_,rfl⟩;obtain ⟨i,j,x,z,hq0,I⟩:=lg a b q r hq hr;have U:(wds q).length<=100000000:=aw (by rw[hq];exact NI _ b.den_pos) l;have Z:(wds r).length<=100000000:=aw (by rw[hr];exact NI _ a.den_pos) p;have X:(wds (ab (a.num/(q:Int)))).length<=100000000:=aw (ck _ _ x) D;have hbr:(wds (ab (b.num/(r:Int)))).length<=100000000:=aw (ck _ _ z) u;have L:(wds (a.den/r)).length<=100000000:=aw (LN _ _) p;have Y:(wds (b.den/q)).length<=100000000:=aw (LN _ _) l;have S:=@dq (a.den/r) (b.den/q);have J:=iU (a.num/(q:Int)) (b.num/(r:Int));have V:LQ 1000000000 (a*b):=⟨by rw[i];omega,by rw[j];omega⟩;have ha:=C;have B:=y;refine go Tryz.func296 [(0,qv a),(1,qv b)] rfl (ax (lA 2 44 (qc a) d (fun H w2 h3 d=>lA 3 44 (qc b) d (fun F w5 h6 d=>lA 4 44 a6 d (fun O w8 h9 d=>ah (aa d [.o (qv a) 2 0 5] (ar 8 d (dW a aM aM _ _ d.g) (fun _ _ d=>lL d [.c,.o (qv b) 1 0 5] (ar 11 d (fT b aM aM _ _ d.g) (fun _ _ d=>lL d [.v qF] (ag (cK (cQ ?_)))))))))))));have e:=d;refine cR 7 [⟨6,5,.cells (Nf [uV 0,eS]) 40 (0,0)⟩] mixed d (bv (eg kR (fun _ _=>by kernel_rfl)) ao) (eV 0 19 (pB H) (eO 1 20 [(2,0,3)] (iv a.num) d (eO 2 21 [(1,0,5)] (qv b) d (au 3 22 d (fun _ _ d=>fI b aM _ _ d.g) (fun _ _ d=>au 4 23 d (fun _ _ d=>fb b.den _ _ d.g) (fun _ _ d=>au 5 24 d (fun _ _ d=>jV a.num (b.den:Int) q (by first|assumption|exact hq) cX (show (wds b.den).length<=1000000000 by first|assumption|omega) _ _ d.g d.f.1) (fun _ _ d=>f0 [] e d 40 [uV 0,eS] (fun _ _ Q d=>tP 7 0 0 (nc q) d (fun _ d=>tN (cQ ?_))))))))));have e:=d;refine cR 7 [⟨6,6,.cells (Nf [uV 0,eS]) 40 (0,0)⟩] mixed d (bv (eg kR (fun _ _=>by kernel_rfl)) ao) (eV 0 25 (pB F) (eO 1 26 [(2,0,3)] (iv b.num) d (eO 2 27 [(3,0,5)] (qv a) d (au 3 28 d (fun _ _ d=>fI a aM _ _ d.g) (fun _ _ d=>au 4 29 d (fun _ _ d=>fb a.den _ _ d.g) (fun _ _ d=>au 5 30 d (fun _ _ d=>jV b.num (a.den:Int) r (by first|assumption|exact hr) cX (show (wds a.den).length<=1000000000 by first|assumption|omega) _ _ d.g d.f.1) (fun _ _ d=>f0 [] e d 40 [uV 0,eS] (fun _ _ W d=>tP 7 0 0 (nc r) d (fun _ d=>tN (cQ (cR 19 [] mixed d ao ?_)))))))))));refine eV 0 31 (pB H) (eO 1 32 [(4,0,3)] (iv a.num) d (eO 2 33 [(1,0,2)] (nv q) d (eV 4 35 (pB F) (eO 5 36 [(3,0,3)] (iv b.num) d (eO 6 37 [(0,0,2)] (nv r) d (eO 9 40 [(4,0,5)] (qv a) d (eO 11 42 [(0,0,2)] (nv r) d (eO 13 44 [(3,0,5)] (qv b) d (eO 15 46 [(1,0,2)] (nv q) d (au 3 34 d (fun _ _ d=>nh a.num q aM aM cX cX _ _ d.g) (fun _ _ d=>au 7 38 d (fun _ _ d=>nh b.num r aM aM cX cX _ _ d.g) (fun _ _ d=>au 8 39 d (fun _ _ d=>Eg (a.num/(q:Int)) (b.num/(r:Int)) cX _ _ d.g) (fun _ _ d=>au 10 41 d (fun _ _ d=>fI a aM _ _ d.g) (fun _ _ d=>au 12 43 d (fun _ _ d=>ir a.den r aM cX cX _ _ d.g) (fun _ _ d=>au 14 45 d (fun _ _ d=>fI b aM _ _ d.g) (fun _ _ d=>au 16 47 d (fun _ _ d=>ir b.den q aM cX cX _ _ d.g) (fun _ _ d=>au 17 48 d (fun _ _ d=>qJ (a.den/r) (b.den/q) cX cX _ _ d.g) (fun _ _ d=>au 18 49 d (fun _ _ d=>ku (a*b) ((a.num/(q:Int))*(b.num/(r:Int))) ((a.den/r)*(b.den/q)) (by first|assumption|exact i|exact (i).symm) (by first|assumption|exact j.symm) aM _ _ d.g) (fun _ _ d=>bP d (fun _ _ d=>tP 19 2 0 (qc (a*b)) d (fun _ d=>tN (bH [(4,pB O)] ?_))))))))))))))))))))));exact kX (d.ret [(2,0,5)] (qv (a*b)) rfl)
theorem m8 (a b:Rat)(ha:LQ 100000000 a)(c:LQ 100000000 b)(w:World)(h:Hp)(g:G w h)(d:Tab h):CV 296 #[qv a,qv b] w h (qv (a*b)):=by
 by_cases h1:a.den=1
 ·by_cases h2:b.den=1
  ·exact HE a b ha c h1 h2 w h g d
  ·exact GE a b ha c h1 h2 w h g d
 ·exact GL a b ha c h1 w h g d
theorem LQ.neg {k:Nat}{a:Rat}(h:LQ k a):LQ k (-a):=⟨by rw[NG];unfold ab;rw[NK];exact h.1,by rw[NH];exact h.2⟩
theorem LQ.add {k l:Nat}{a b:Rat}(ha:LQ k a)(u:LQ l b):LQ (k+l+1) (a+b):=by
 obtain ⟨B,h⟩:=ha;obtain ⟨o,c⟩:=u;obtain ⟨q,hq⟩:∃ q,q=MX a.den b.den:=⟨_,rfl⟩;obtain ⟨up,hup⟩:∃ up,up=a.num*((b.den/q:Nat):Int)+b.num*((a.den/q:Nat):Int):=⟨_,rfl⟩;obtain ⟨r,hr⟩:∃ r,r=MX (ab up) q:=⟨_,rfl⟩;obtain ⟨f,e,d,p,i,hq0⟩:=li a b q r up hq hup hr;have x:=aw (LN a.den q) h;have z:=aw (LN b.den q) c;have C:=aw (LN b.den r) c;have D:=dL a.num (b.den/q);have y:=dL b.num (a.den/q);have j:=@dq (a.den/q) (b.den/r);refine ⟨?_,by rw[e];omega⟩;rw[f];refine aw (ck up r d) ?_;rw[hup];exact e4 (db (show ab _<=ab _+ab _ from NJ _ _)) (pO oM oM)
theorem LQ.mul {k l:Nat}{a b:Rat}(ha:LQ k a)(p:LQ l b):LQ (k+l) (a*b):=by
 obtain ⟨d,h⟩:=ha;obtain ⟨e,f⟩:=p;obtain ⟨i,c,j,o,hq0,u⟩:=lg a b _ _ rfl rfl;refine ⟨?_,?_⟩
 ·rw[i]
  have h1:=aw (ck _ _ j) d;have x:=aw (ck _ _ o) e;exact e4 (iU _ _) oM
 ·rw[c]
  have h1:=aw (LN a.den (MX (ab b.num) a.den)) h;have x:=aw (LN b.den (MX (ab a.num) b.den)) f;exact e4 dq oM
theorem LQ.mono {k l:Nat}{a:Rat}(h:LQ k a)(b:k<=l):LQ l a:=⟨e4 h.1 b,e4 h.2 b⟩
def dg (a b:Rat):Int:=ek (a.num*b.den) (b.num*a.den)
theorem fy {a b:Rat}(h1:a.den=1)(c:b.den=1):ek a.num b.num=dg a b:=by unfold dg;rw[h1,c];simp
theorem gR {a b:Rat}(h:(a.num.sign != b.num.sign)=true):ek a.num b.num=dg a b:=by
 have h:a.num.sign≠b.num.sign:=by simpa using h
 have ha:=a.den_pos;have e:=b.den_pos
 unfold dg ek
 rcases Nl a.num 0 with p|p|p<;>rcases Nl b.num 0 with q|q|q
 ·exact absurd (by rw[Nm p,Nm q]) h
 ·have:a.num*(b.den:Int)<0:=NL p oM
  rw[q];simp;rw[if_pos p,if_pos this]
 ·have d:a.num*(b.den:Int)<0:=NL p oM
  have c:0<b.num*(a.den:Int):=NM q oM;rw[if_pos oM,if_pos oM]
 ·have:b.num*(a.den:Int)<0:=NL q oM
  rw[p];simp;rw[if_neg oM,if_pos q,if_neg oM,if_pos this]
 ·exact absurd (by rw[p,q]) h
 ·have:0<b.num*(a.den:Int):=NM q oM
  rw[p];simp;rw[if_pos q,if_pos this]
 ·have d:0<a.num*(b.den:Int):=NM p oM
  have c:b.num*(a.den:Int)<0:=NL q oM;rw[if_neg oM,if_pos oM,if_neg oM,if_pos oM]
 ·have:0<a.num*(b.den:Int):=NM p oM
  rw[q];simp;rw[if_neg oM,if_pos p,if_neg oM,if_pos this]
 ·exact absurd (by rw[Np p,Np q]) h
theorem FC (a b:Rat)(ha:LQ 100000000 a)(p:LQ 100000000 b)(i:a.den=1)(d:b.den=1)(w:World)(h:Hp)(g:G w h):CV 85 #[qv a,qv b] w h (iV (dg a b)):=by
 have c:=sS g;have f:=ha;have e:=p;obtain ⟨z,C⟩:=f;obtain ⟨j,B⟩:=e;have l:=dL a.num b.den;have y:=dL b.num a.den;refine go Tryz.func85 [(0,qv a),(1,qv b)] rfl (ax (lA 2 44 (qc a) c (fun x w2 I c=>lA 3 44 (qc b) c (fun u J H c=>lL c ac (ah (cQ (cR 13 [] mixed c ao ?_)))))));exact eO 0 5 [(1,0,5)] (qv a) c (au 1 6 c (fun _ _ c=>dW a aM aM _ _ c.g) (fun F K c=>eV 2 7 qT (eO 3 8 [(0,0,5)] (qv b) c (au 4 9 c (fun _ _ c=>dW b aM aM _ _ c.g) (fun D _ c=>eV 5 10 qT (eV 6 11 qT (eG 7 12 (eG 8 13 (eG 9 14 (eG 10 15 (eG 11 16 (eV 12 17 qT (bP c (fun _ _ c=>tN (co (aa c [.v (pB x),.o (iv a.num) 1 0 3,.v (pB u),.o (iv b.num) 0 0 3] (ar 22 c (xq a.num b.num cX cX _ _ c.g) (fun _ _ c=>lL c ac (ae c [] (iV (ek a.num b.num)) (congrArg (Value.int .i64) (by first|rfl|exact fy i d|exact gR ‹_›)))))))))))))))))))))
theorem FV (a b:Rat)(ha:LQ 100000000 a)(u:LQ 100000000 b)(d:a.den≠1)(w:World)(h:Hp)(g:G w h):CV 85 #[qv a,qv b] w h (iV (dg a b)):=by
 have c:=sS g;have f:=ha;have e:=u;obtain ⟨y,B⟩:=f;obtain ⟨l,z⟩:=e;have p:=dL a.num b.den;have x:=dL b.num a.den;refine go Tryz.func85 [(0,qv a),(1,qv b)] rfl (ax (lA 2 44 (qc a) c (fun j w2 H c=>lA 3 44 (qc b) c (fun i I F c=>lL c ac (ah (cQ (cR 13 [] mixed c ao ?_)))))));refine eO 0 5 [(1,0,5)] (qv a) c (au 1 6 c (fun _ _ c=>fT a aM aM _ _ c.g) (fun D J c=>eV 2 7 qF (eG 3 8 (eG 4 9 (eV 5 10 qF (eV 6 11 qF (eO 7 12 [(1,0,5)] (qv a) c (eO 9 14 [(0,0,5)] (qv b) c (au 8 13 c (fun _ _ c=>jl a aM _ _ c.g) (fun C _ c=>au 10 15 c (fun _ _ c=>jl b aM _ _ c.g) (fun _ _ c=>?_)))))))))));cases za:(((a.num).sign:Int) != ((b.num).sign:Int))
 .
  have zb:=aW za;refine eB 11 16 za (eV 12 17 qF (bP c (fun _ _ c=>tN (dr (cK (cQ (cR 11 [] mixed c ao ?_)))))));exact eV 0 23 (pB j) (eO 1 24 [(1,0,3)] (iv a.num) c (eO 2 25 [(0,0,5)] (qv b) c (eV 5 28 (pB i) (eO 6 29 [(0,0,3)] (iv b.num) c (eO 7 30 [(1,0,5)] (qv a) c (au 3 26 c (fun _ _ c=>fI b aM _ _ c.g) (fun _ _ c=>au 4 27 c (fun _ _ c=>iN a.num b.den cX _ _ c.g) (fun _ _ c=>au 8 31 c (fun _ _ c=>fI a aM _ _ c.g) (fun _ _ c=>au 9 32 c (fun _ _ c=>iN b.num a.den cX _ _ c.g) (fun _ _ c=>au 10 33 c (fun _ _ c=>xq (a.num*(b.den:Int)) (b.num*(a.den:Int)) cX cX _ _ c.g) (fun _ _ c=>bP c (fun _ _ c=>tV 11 4 (iV (ek (a.num*(b.den:Int)) (b.num*(a.den:Int)))) (tN (kX (c.ret [] (iV (ek (a.num*(b.den:Int)) (b.num*(a.den:Int)))) (congrArg (Value.int .i64) (by first|rfl|exact fy d hwb|exact gR ‹_›)))))))))))))))))
 have zb:=aN za;exact eB 11 16 za (eV 12 17 qT (bP c (fun _ _ c=>tN (co (aa c [.v (pB j),.o (iv a.num) 1 0 3,.v (pB i),.o (iv b.num) 0 0 3] (ar 22 c (xq a.num b.num cX cX _ _ c.g) (fun _ _ c=>lL c ac (ae c [] (iV (ek a.num b.num)) (congrArg (Value.int .i64) (by first|rfl|exact fy d hwb|exact gR ‹_›))))))))))
theorem Gj (a b:Rat)(ha:LQ 100000000 a)(x:LQ 100000000 b)(e:a.den=1)(d:b.den≠1)(w:World)(h:Hp)(g:G w h):CV 85 #[qv a,qv b] w h (iV (dg a b)):=by
 have c:=sS g;have i:=ha;have f:=x;obtain ⟨z,C⟩:=i;obtain ⟨p,B⟩:=f;have u:=dL a.num b.den;have y:=dL b.num a.den;refine go Tryz.func85 [(0,qv a),(1,qv b)] rfl (ax (lA 2 44 (qc a) c (fun l w2 I c=>lA 3 44 (qc b) c (fun j J H c=>lL c ac (ah (cQ (cR 13 [] mixed c ao ?_)))))));refine eO 0 5 [(1,0,5)] (qv a) c (au 1 6 c (fun _ _ c=>dW a aM aM _ _ c.g) (fun F K c=>eV 2 7 qT (eO 3 8 [(0,0,5)] (qv b) c (au 4 9 c (fun _ _ c=>fT b aM aM _ _ c.g) (fun D _ c=>eV 5 10 qF (eV 6 11 qF (eO 7 12 [(1,0,5)] (qv a) c (eO 9 14 [(0,0,5)] (qv b) c (au 8 13 c (fun _ _ c=>jl a aM _ _ c.g) (fun _ _ c=>au 10 15 c (fun _ _ c=>jl b aM _ _ c.g) (fun _ _ c=>?_)))))))))));cases za:(((a.num).sign:Int) != ((b.num).sign:Int))
 .
  have zb:=aW za;refine eB 11 16 za (eV 12 17 qF (bP c (fun _ _ c=>tN (dr (cK (cQ (cR 11 [] mixed c ao ?_)))))));exact eV 0 23 (pB l) (eO 1 24 [(1,0,3)] (iv a.num) c (eO 2 25 [(0,0,5)] (qv b) c (eV 5 28 (pB j) (eO 6 29 [(0,0,3)] (iv b.num) c (eO 7 30 [(1,0,5)] (qv a) c (au 3 26 c (fun _ _ c=>fI b aM _ _ c.g) (fun _ _ c=>au 4 27 c (fun _ _ c=>iN a.num b.den cX _ _ c.g) (fun _ _ c=>au 8 31 c (fun _ _ c=>fI a aM _ _ c.g) (fun _ _ c=>au 9 32 c (fun _ _ c=>iN b.num a.den cX _ _ c.g) (fun _ _ c=>au 10 33 c (fun _ _ c=>xq (a.num*(b.den:Int)) (b.num*(a.den:Int)) cX cX _ _ c.g) (fun _ _ c=>bP c (fun _ _ c=>tV 11 4 (iV (ek (a.num*(b.den:Int)) (b.num*(a.den:Int)))) (tN (kX (c.ret [] (iV (ek (a.num*(b.den:Int)) (b.num*(a.den:Int)))) (congrArg (Value.int .i64) (by first|rfl|exact fy e d|exact gR ‹_›)))))))))))))))))
 have zb:=aN za;exact eB 11 16 za (eV 12 17 qT (bP c (fun _ _ c=>tN (co (aa c [.v (pB l),.o (iv a.num) 1 0 3,.v (pB j),.o (iv b.num) 0 0 3] (ar 22 c (xq a.num b.num cX cX _ _ c.g) (fun _ _ c=>lL c ac (ae c [] (iV (ek a.num b.num)) (congrArg (Value.int .i64) (by first|rfl|exact fy e d|exact gR ‹_›))))))))))
theorem J4 (a b:Rat)(ha:LQ 100000000 a)(c:LQ 100000000 b)(w:World)(h:Hp)(g:G w h):CV 85 #[qv a,qv b] w h (iV (dg a b)):=by
 by_cases h1:a.den=1
 ·by_cases h2:b.den=1
  ·exact FC a b ha c h1 h2 w h g
  ·exact Gj a b ha c h1 h2 w h g
 ·exact FV a b ha c h1 w h g
theorem i4 {a b:Rat}:dg a b<0↔a<b:=by
 unfold dg ek
 rw[Rat.lt_iff]
 split
 ·simp;assumption
 ·split<;>simp<;>omega
theorem jc {a b:Rat}:dg a b>0↔b<a:=by
 unfold dg ek
 rw[Rat.lt_iff]
 split
 ·simp;omega
 ·split<;>simp<;>omega
def mkR (n d:Int):Rat:=mkRat (if d<0 then -n else n) (ab d)
theorem FX (n d:Int)(i:d<0)(c:(wds (ab n)).length<=1000000000)(j:(wds (ab d)).length<=1000000000)(w:World)(h:Hp)(g:G w h)(u:Tab h):CV 48 #[iv n,iv d] w h (.tuple #[qv (mkR n d),.bool true]):=by
 have a:=((sS g).aB u);have l:=Nm i;have y:0<ab d:=by unfold ab;omega
 have x:(wds (ab (-n))).length<=1000000000:=by unfold ab;rw[NK];exact c
 refine go Tryz.func48 [(0,iv n),(1,iv d)] rfl (ax (lA 2 42 (ic n) a (fun J w2 F a=>lA 3 42 (ic d) a (fun I H D a=>lA 4 44 a6 a (fun C B z a=>lL a ac (ah (aa a [.o (iv d) 1 0 3] (ar 7 a (mn d cX _ _ a.g) (fun _ _ a=>?_)))))))));have za:(((d).sign:Int) == (0:Int))=false:=eM oM;have b:=aj za;refine lB 8 za (ag (cK (cQ (aa a [.o (iv d) 1 0 3] (ar 11 a (mn d cX _ _ a.g) (fun _ _ a=>?_))))));have ⟨zb,e⟩:=dT (p:=((d).sign:Int)<(0:Int)) oM;refine lB 12 zb (ak (kQ (lL a [.o (iv n) 2 0 3] (ar 14 a (Ih n cX _ _ a.g) (fun _ _ a=>lP 2 0 (ic (-n)) a (fun _ a=>ah (cR 4 [] mixed a ao ?_)))))));exact eO 0 15 [(2,0,3)] (iv (-n)) a (eO 1 16 [(1,0,3)] (iv d) a (au 2 17 a (fun _ _ a=>xa d _ _ a.g) (fun _ _ a=>au 3 18 a (fun _ _ a=>tg (-n) (ab d) cX cX cX _ _ a.g a.f.1) (fun _ _ a=>bP a (fun _ _ a=>tP 4 0 0 (qc (mkRat (-n) (ab d))) a (fun _ a=>tV 5 5 qT (tN (kX (a.ret [(0,0,5)] (.tuple #[qv (mkRat (-n) (ab d)),qT]) (by unfold mkR;rw[if_pos i]))))))))))
theorem HO (n d:Int)(i:0<d)(u:(wds (ab n)).length<=1000000000)(e:(wds (ab d)).length<=1000000000)(w:World)(h:Hp)(g:G w h)(l:Tab h):CV 48 #[iv n,iv d] w h (.tuple #[qv (mkR n d),.bool true]):=by
 have a:=((sS g).aB l);have j:=Np i;have x:0<ab d:=by unfold ab;omega
 refine go Tryz.func48 [(0,iv n),(1,iv d)] rfl (ax (lA 2 42 (ic n) a (fun I w2 D a=>lA 3 42 (ic d) a (fun H F C a=>lA 4 44 a6 a (fun B z y a=>lL a ac (ah (aa a [.o (iv d) 1 0 3] (ar 7 a (mn d cX _ _ a.g) (fun _ _ a=>?_)))))))));have za:(((d).sign:Int) == (0:Int))=false:=eM oM;have b:=aj za;refine lB 8 za (ag (cK (cQ (aa a [.o (iv d) 1 0 3] (ar 11 a (mn d cX _ _ a.g) (fun _ _ a=>?_))))));have ⟨zb,c⟩:=dF (p:=((d).sign:Int)<(0:Int)) oM;refine lB 12 zb (ag (cK (cQ (cR 4 [] mixed a ao ?_))));exact eO 0 15 [(2,0,3)] (iv n) a (eO 1 16 [(1,0,3)] (iv d) a (au 2 17 a (fun _ _ a=>xa d _ _ a.g) (fun _ _ a=>au 3 18 a (fun _ _ a=>tg n (ab d) cX cX cX _ _ a.g a.f.1) (fun _ _ a=>bP a (fun _ _ a=>tP 4 0 0 (qc (mkRat n (ab d))) a (fun _ a=>tV 5 5 qT (tN (kX (a.ret [(0,0,5)] (.tuple #[qv (mkRat n (ab d)),qT]) (by unfold mkR;rw[if_neg oM]))))))))))
theorem Js (n d:Int)(e:d≠0)(a:(wds (ab n)).length<=1000000000)(b:(wds (ab d)).length<=1000000000)(w:World)(h:Hp)(g:G w h)(c:Tab h):CV 48 #[iv n,iv d] w h (.tuple #[qv (mkR n d),.bool true]):=by
 rcases Nl d 0 with h1|h1|h1
 ·exact FX n d h1 a b w h g c
 ·exact absurd h1 e
 ·exact HO n d h1 a b w h g c
theorem EQ (a b:Rat)(ha:LQ 100000000 a)(D:LQ 100000000 b)(hz:b.num≠0)(w:World)(h:Hp)(g:G w h)(C:Tab h):CV 295 #[qv a,qv b] w h (.tuple #[qv (a/b),.bool true]):=by
 have c:=((sS g).aB C);have x:=ha;have p:=D;obtain ⟨H,I⟩:=x;obtain ⟨l,z⟩:=p;have j:((b.num).sign == (0:Int))=false:=by simpa using hz
 obtain ⟨i,d⟩:=uE b hz;have u:(wds (ab (bu (decide ((b.num).sign<(0:Int))) b.den))).length<=100000000:=by rw[fi];exact z
 have y:LQ 100000000 b⁻¹:=⟨by rw[i];exact u,by rw[d];exact l⟩;have B:LQ 1000000000 b⁻¹:=y.mono oM;refine go Tryz.func295 [(0,qv a),(1,qv b)] rfl (ax (lA 2 44 (qc a) c (fun S w2 O c=>lA 3 44 (qc b) c (fun F Q M c=>lA 4 44 a6 c (fun L K J c=>lL c ac (ah (aa c [.o (qv b) 1 0 5] (ar 7 c (jl b aM _ _ c.g) (fun _ _ c=>lV 8 qF ?_ (hr:=rb (e:=((b.num).sign == (0:Int))) kR j))))))))));refine ag (cK (cQ (cR 12 [] mixed c ao ?_)));exact eO 0 10 [(2,0,5)] (qv a) c (eO 1 11 [(1,0,5)] (qv b) c (eO 4 14 [(1,0,5)] (qv b) c (eV 7 17 (pB F) (eO 8 18 [(1,0,3)] (iv b.num) c (au 2 12 c (fun _ _ c=>jl b aM _ _ c.g) (fun _ _ c=>eV 3 13 (.bool (decide (((b.num).sign:Int)<(0:Int)))) (au 5 15 c (fun _ _ c=>fI b aM _ _ c.g) (fun _ _ c=>au 6 16 c (fun _ _ c=>gh (decide (((b.num).sign:Int)<(0:Int))) b.den cX _ _ c.g) (fun _ _ c=>au 9 19 c (fun _ _ c=>xa b.num _ _ c.g) (fun _ _ c=>au 10 20 c (fun _ _ c=>ku b⁻¹ (bu (decide (((b.num).sign:Int)<(0:Int))) b.den) (ab b.num) i d.symm aM _ _ c.g) (fun _ _ c=>au 11 21 c (fun _ _ c=>m8 a (b⁻¹) aM aM _ _ c.g c.f.1) (fun _ _ c=>bP c (fun _ _ c=>tP 12 0 0 (qc (a*(b⁻¹))) c (fun _ c=>tV 13 5 qT (tN (kX (c.ret [(0,0,5)] (.tuple #[qv (a*(b⁻¹)),qT]) (by rw[Rat.div_def]))))))))))))))))))
theorem ip (x:Int)(A:Option Addr)(c:Nat)(C:(lim (ab x)).length<=c)(B:(lim (ab x)).length<=2000000000)(y:Int)(D:Option Addr)(d:Nat)(o:(lim (ab y)).length<=d)(I:(lim (ab y)).length<=2000000000)(w:World)(h:Hp)(g:G w h)(F:S3 A (lim (ab x)) h)(i:S3 D (lim (ab y)) h):CR 108 #[.agg #[.bool (af x),.slice A ((lim (ab x)).length) c],.agg #[.bool (af y),.slice D ((lim (ab y)).length) d]] w h (fun v h1=>RI h1 v (x*y)):=by
 have a:=(((sS g).aS F).aS i);refine go Tryz.func108 [(0,.agg #[.bool (af x),qS A ((lim (ab x)).length) c]),(1,.agg #[.bool (af y),qS D ((lim (ab y)).length) d])] rfl (ax (lA 2 26 ([.bool (af x),qS A ((lim (ab x)).length) c]) a (fun e w2 O a=>lA 3 26 ([.bool (af y),qS D ((lim (ab y)).length) d]) a (fun b Q M a=>lA 4 26 ([qF,sZ]) a (fun L K J a=>ah (cR 11 [] mixed a ao ?_))))));refine eV 0 5 (pB e) (eO 1 6 [(2,0,1)] (.bool (af x)) a (eV 2 7 (pB b) (eO 3 8 [(1,0,1)] (.bool (af y)) a (eV 4 9 (.bool ((af x) != (af y))) (eV 5 10 (qP e 1) (eO 6 11 [(2,1,1)] (qS A ((lim (ab x)).length) c) a (eV 7 12 (qP b 1) (eO 8 13 [(1,1,1)] (qS D ((lim (ab y)).length) d) a (eC 9 14 a (fun _ _ a=>o9 (ab x) A c C (ab y) D d o oM oM _ _ a.g a.f.2.1 a.f.1) ?_)))))))));rintro _ _ _ _ _ a ⟨z,u,rfl,l,p⟩;replace a:=a.aS p;refine eC 10 15 a (fun _ _ a=>rI ((af x) != (af y)) ((ab x)*(ab y)) z u l _ _ a.g a.f.1) ?_;rintro _ _ _ _ _ a ⟨za,zb,rfl,j,H⟩;replace a:=a.aS H;exact bP a (fun _ _ a=>tP 11 0 0 ([.bool (af (bu ((af x) != (af y)) ((ab x)*(ab y)))),qS za ((lim (ab (bu ((af x) != (af y)) ((ab x)*(ab y))))).length) zb]) a (fun _ a=>tN (kX (a.ret [(0,0,2)] (.agg #[.bool (af (bu ((af x) != (af y)) ((ab x)*(ab y)))),qS za ((lim (ab (bu ((af x) != (af y)) ((ab x)*(ab y))))).length) zb]) (by rw[<-mF x y];exact ⟨_,_,rfl,j,a.f.1⟩)))))
theorem Bj (x:Int)(A:Option Addr)(c:Nat)(p:(lim (ab x)).length<=c)(l:(lim (ab x)).length<=2000000000)(j:af x=false)(w:World)(h:Hp)(g:G w h)(u:S3 A (lim (ab x)) h):CR 192 #[.agg #[.bool false,.slice A ((lim (ab x)).length) c]] w h (fun v h1=>RI h1 v (-x)):=by
 have a:=((sS g).aS u);refine go Tryz.func192 [(0,.agg #[qF,qS A ((lim (ab x)).length) c])] rfl (ax (lA 1 26 ([qF,qS A ((lim (ab x)).length) c]) a (fun e w2 z a=>lA 2 26 ([qF,sZ]) a (fun C B y a=>aG (lL a [.v (pB e),.o qF 1 0 1,.v qT,.v (qP e 1),.o (qS A ((lim (ab x)).length) c) 1 1 1] (lC 8 a (rI true (ab x) A c p _ _ a.g a.f.1) ?_))))));rintro _ _ _ a ⟨i,d,rfl,b,za⟩;replace a:=a.aS za;exact lP 0 0 ([.bool (af (bu true (ab x))),qS i ((lim (ab (bu true (ab x)))).length) d]) a (fun _ a=>ae a [(0,0,2)] (.agg #[.bool (af (bu true (ab x))),qS i ((lim (ab (bu true (ab x)))).length) d]) (by rw[<-k9 x,j];exact ⟨_,_,rfl,b,a.f.1⟩))
theorem xp (x:Int)(A:Option Addr)(c:Nat)(p:(lim (ab x)).length<=c)(l:(lim (ab x)).length<=2000000000)(j:af x=true)(w:World)(h:Hp)(g:G w h)(u:S3 A (lim (ab x)) h):CR 192 #[.agg #[.bool true,.slice A ((lim (ab x)).length) c]] w h (fun v h1=>RI h1 v (-x)):=by
 have a:=((sS g).aS u);refine go Tryz.func192 [(0,.agg #[qT,qS A ((lim (ab x)).length) c])] rfl (ax (lA 1 26 ([qT,qS A ((lim (ab x)).length) c]) a (fun e w2 z a=>lA 2 26 ([qF,sZ]) a (fun C B y a=>aG (lL a [.v (pB e),.o qT 1 0 1,.v qF,.v (qP e 1),.o (qS A ((lim (ab x)).length) c) 1 1 1] (lC 8 a (rI false (ab x) A c p _ _ a.g a.f.1) ?_))))));rintro _ _ _ a ⟨i,d,rfl,b,za⟩;replace a:=a.aS za;exact lP 0 0 ([.bool (af (bu false (ab x))),qS i ((lim (ab (bu false (ab x)))).length) d]) a (fun _ a=>ae a [(0,0,2)] (.agg #[.bool (af (bu false (ab x))),qS i ((lim (ab (bu false (ab x)))).length) d]) (by rw[<-k9 x,j];exact ⟨_,_,rfl,b,a.f.1⟩))
theorem td (x:Int)(A:Option Addr)(c:Nat)(d:(lim (ab x)).length<=c)(a:(lim (ab x)).length<=2000000000)(w:World)(h:Hp)(g:G w h)(b:S3 A (lim (ab x)) h):CR 192 #[.agg #[.bool (af x),.slice A (lim (ab x)).length c]] w h (fun v h1=>RI h1 v (-x)):=by
 rcases hx:af x with _|_
 ·exact Bj x A c d a hx w h g b
 ·exact xp x A c d a hx w h g b
theorem vD (x:Int)(A:Option Addr)(c:Nat)(J:(lim (ab x)).length<=c)(I:(lim (ab x)).length<=2000000000)(y:Int)(D:Option Addr)(d:Nat)(u:(lim (ab y)).length<=d)(M:(lim (ab y)).length<=2000000000)(H:af x=false)(l:af y=false)(w:World)(h:Hp)(g:G w h)(K:S3 A (lim (ab x)) h)(i:S3 D (lim (ab y)) h):CR 107 #[.agg #[.bool false,.slice A ((lim (ab x)).length) c],.agg #[.bool false,.slice D ((lim (ab y)).length) d]] w h (fun v h1=>RI h1 v (x+y)):=by
 have a:=(((sS g).aS K).aS i);have B:=a7 H;have O:=a7 l;refine go Tryz.func107 [(0,.agg #[qF,qS A ((lim (ab x)).length) c]),(1,.agg #[qF,qS D ((lim (ab y)).length) d])] rfl (ax (lA 2 26 ([qF,qS A ((lim (ab x)).length) c]) a (fun b w2 W a=>lA 3 26 ([qF,qS D ((lim (ab y)).length) d]) a (fun e X V a=>lA 4 26 ([qF,sZ]) a (fun U S Q a=>ah (aa a [.v (pB b),.o qF 2 0 1,.v (pB e),.o qF 1 0 1,.v qT] (ak (cQ (cR 8 [] mixed a ao ?_)))))))));refine eV 0 10 (pB b) (eO 1 11 [(2,0,1)] qF a (eV 2 12 (qP b 1) (eO 3 13 [(2,1,1)] (qS A ((lim (ab x)).length) c) a (eV 4 14 (qP e 1) (eO 5 15 [(1,1,1)] (qS D ((lim (ab y)).length) d) a (eC 6 16 a (fun _ _ a=>tE (ab x) A c J (ab y) D d u oM oM _ _ a.g a.f.2.1 a.f.1) ?_))))));rintro _ _ _ _ _ a ⟨F,C,rfl,p,z⟩;replace a:=a.aS z;refine eC 7 17 a (fun _ _ a=>rI false ((ab x)+(ab y)) F C p _ _ a.g a.f.1) ?_;rintro _ _ _ _ _ a ⟨za,zb,rfl,j,L⟩;replace a:=a.aS L;exact bP a (fun _ _ a=>tP 8 0 0 ([.bool (af (bu false ((ab x)+(ab y)))),qS za ((lim (ab (bu false ((ab x)+(ab y))))).length) zb]) a (fun _ a=>tN (kX (a.ret [(0,0,2)] (.agg #[.bool (af (bu false ((ab x)+(ab y)))),qS za ((lim (ab (bu false ((ab x)+(ab y))))).length) zb]) (by rw[show x+y=(bu false ((ab x)+(ab y))) by unfold bu ab at *;simp;omega];exact ⟨_,_,rfl,j,a.f.1⟩)))))
theorem vm (x:Int)(A:Option Addr)(c:Nat)(j:(lim (ab x)).length<=c)(V:(lim (ab x)).length<=2000000000)(y:Int)(D:Option Addr)(d:Nat)(i:(lim (ab y)).length<=d)(hLy:(lim (ab y)).length<=2000000000)(U:af x=false)(C:af y=true)(w:World)(h:Hp)(g:G w h)(Z:S3 A (lim (ab x)) h)(B:S3 D (lim (ab y)) h):CR 107 #[.agg #[.bool false,.slice A ((lim (ab x)).length) c],.agg #[.bool true,.slice D ((lim (ab y)).length) d]] w h (fun v h1=>RI h1 v (x+y)):=by
 have a:=(((sS g).aS Z).aS B);have L:=a7 U;have hy_:=bj C;refine go Tryz.func107 [(0,.agg #[qF,qS A ((lim (ab x)).length) c]),(1,.agg #[qT,qS D ((lim (ab y)).length) d])] rfl (ax (lA 2 26 ([qF,qS A ((lim (ab x)).length) c]) a (fun e w2 h3 a=>lA 3 26 ([qT,qS D ((lim (ab y)).length) d]) a (fun b w5 h6 a=>lA 4 26 ([qF,sZ]) a (fun b7 w8 h9 a=>ah (aa a [.v (pB e),.o qF 2 0 1,.v (pB b),.o qT 1 0 1,.v qF] (ag (cK (cQ (aa a [.v (qP e 1),.o (qS A ((lim (ab x)).length) c) 2 1 1,.v (qP b 1),.o (qS D ((lim (ab y)).length) d) 1 1 1] (ar 22 a (ia (ab x) A c j (ab y) D d i oM oM _ _ a.g a.f.2.1 a.f.1) (fun _ _ a=>?_))))))))))));have H:=ie (ab x) (ab y);cases za:(decide ((0:Int)<=(bX (ab x) (ab y):Int)))
 .
  have zb:=oF za;refine lB 23 za (ag (cK (cQ (cR 8 [] mixed a ao ?_))));refine eV 0 32 (pB b) (eO 1 33 [(1,0,1)] qT a (eV 2 34 (qP b 1) (eO 3 35 [(1,1,1)] (qS D ((lim (ab y)).length) d) a (eV 4 36 (qP e 1) (eO 5 37 [(2,1,1)] (qS A ((lim (ab x)).length) c) a (eC 6 38 a (fun _ _ a=>kU (ab y) D d i (ab x) A c j oM oM oM _ _ a.g a.f.1 a.f.2.1) ?_))))));rintro _ _ _ _ _ a ⟨S,zq,rfl,Q,M⟩;replace a:=a.aS M;refine eC 7 39 a (fun _ _ a=>rI true ((ab y)-(ab x)) S zq Q _ _ a.g a.f.1) ?_;rintro _ _ _ _ _ a ⟨p,u,rfl,J,F⟩;replace a:=a.aS F;exact bP a (fun _ _ a=>tP 8 0 0 ([.bool (af (bu true ((ab y)-(ab x)))),qS p ((lim (ab (bu true ((ab y)-(ab x))))).length) u]) a (fun _ a=>tN (kX (a.ret [(0,0,2)] (.agg #[.bool (af (bu true ((ab y)-(ab x)))),qS p ((lim (ab (bu true ((ab y)-(ab x))))).length) u]) (by rw[show x+y=(bu true ((ab y)-(ab x))) by unfold bu ab at *;simp;omega];exact ⟨_,_,rfl,J,a.f.1⟩)))))
 have zb:=oT za;refine lB 23 za (ak (cQ (cR 8 [] mixed a ao ?_)));refine eV 0 24 (pB e) (eO 1 25 [(2,0,1)] qF a (eV 2 26 (qP e 1) (eO 3 27 [(2,1,1)] (qS A ((lim (ab x)).length) c) a (eV 4 28 (qP b 1) (eO 5 29 [(1,1,1)] (qS D ((lim (ab y)).length) d) a (eC 6 30 a (fun _ _ a=>kU (ab x) A c j (ab y) D d i oM oM oM _ _ a.g a.f.2.1 a.f.1) ?_))))));rintro _ _ _ _ _ a ⟨Y,I,rfl,X,W⟩;replace a:=a.aS W;refine eC 7 31 a (fun _ _ a=>rI false ((ab x)-(ab y)) Y I X _ _ a.g a.f.1) ?_;rintro _ _ _ _ _ a ⟨l,z,rfl,K,O⟩;replace a:=a.aS O;exact bP a (fun _ _ a=>tP 8 0 0 ([.bool (af (bu false ((ab x)-(ab y)))),qS l ((lim (ab (bu false ((ab x)-(ab y))))).length) z]) a (fun _ a=>tN (kX (a.ret [(0,0,2)] (.agg #[.bool (af (bu false ((ab x)-(ab y)))),qS l ((lim (ab (bu false ((ab x)-(ab y))))).length) z]) (by rw[show x+y=(bu false ((ab x)-(ab y))) by unfold bu ab at *;simp;omega];exact ⟨_,_,rfl,K,a.f.1⟩)))))
theorem vv (x:Int)(A:Option Addr)(c:Nat)(j:(lim (ab x)).length<=c)(V:(lim (ab x)).length<=2000000000)(y:Int)(D:Option Addr)(d:Nat)(i:(lim (ab y)).length<=d)(hLy:(lim (ab y)).length<=2000000000)(U:af x=true)(C:af y=false)(w:World)(h:Hp)(g:G w h)(Z:S3 A (lim (ab x)) h)(B:S3 D (lim (ab y)) h):CR 107 #[.agg #[.bool true,.slice A ((lim (ab x)).length) c],.agg #[.bool false,.slice D ((lim (ab y)).length) d]] w h (fun v h1=>RI h1 v (x+y)):=by
 have a:=(((sS g).aS Z).aS B);have L:=bj U;have hy_:=a7 C;refine go Tryz.func107 [(0,.agg #[qT,qS A ((lim (ab x)).length) c]),(1,.agg #[qF,qS D ((lim (ab y)).length) d])] rfl (ax (lA 2 26 ([qT,qS A ((lim (ab x)).length) c]) a (fun e w2 h3 a=>lA 3 26 ([qF,qS D ((lim (ab y)).length) d]) a (fun b w5 h6 a=>lA 4 26 ([qF,sZ]) a (fun b7 w8 h9 a=>ah (aa a [.v (pB e),.o qT 2 0 1,.v (pB b),.o qF 1 0 1,.v qF] (ag (cK (cQ (aa a [.v (qP e 1),.o (qS A ((lim (ab x)).length) c) 2 1 1,.v (qP b 1),.o (qS D ((lim (ab y)).length) d) 1 1 1] (ar 22 a (ia (ab x) A c j (ab y) D d i oM oM _ _ a.g a.f.2.1 a.f.1) (fun _ _ a=>?_))))))))))));have H:=ie (ab x) (ab y);cases za:(decide ((0:Int)<=(bX (ab x) (ab y):Int)))
 .
  have zb:=oF za;refine lB 23 za (ag (cK (cQ (cR 8 [] mixed a ao ?_))));refine eV 0 32 (pB b) (eO 1 33 [(1,0,1)] qF a (eV 2 34 (qP b 1) (eO 3 35 [(1,1,1)] (qS D ((lim (ab y)).length) d) a (eV 4 36 (qP e 1) (eO 5 37 [(2,1,1)] (qS A ((lim (ab x)).length) c) a (eC 6 38 a (fun _ _ a=>kU (ab y) D d i (ab x) A c j oM oM oM _ _ a.g a.f.1 a.f.2.1) ?_))))));rintro _ _ _ _ _ a ⟨S,zq,rfl,Q,M⟩;replace a:=a.aS M;refine eC 7 39 a (fun _ _ a=>rI false ((ab y)-(ab x)) S zq Q _ _ a.g a.f.1) ?_;rintro _ _ _ _ _ a ⟨p,u,rfl,J,F⟩;replace a:=a.aS F;exact bP a (fun _ _ a=>tP 8 0 0 ([.bool (af (bu false ((ab y)-(ab x)))),qS p ((lim (ab (bu false ((ab y)-(ab x))))).length) u]) a (fun _ a=>tN (kX (a.ret [(0,0,2)] (.agg #[.bool (af (bu false ((ab y)-(ab x)))),qS p ((lim (ab (bu false ((ab y)-(ab x))))).length) u]) (by rw[show x+y=(bu false ((ab y)-(ab x))) by unfold bu ab at *;simp;omega];exact ⟨_,_,rfl,J,a.f.1⟩)))))
 have zb:=oT za;refine lB 23 za (ak (cQ (cR 8 [] mixed a ao ?_)));refine eV 0 24 (pB e) (eO 1 25 [(2,0,1)] qT a (eV 2 26 (qP e 1) (eO 3 27 [(2,1,1)] (qS A ((lim (ab x)).length) c) a (eV 4 28 (qP b 1) (eO 5 29 [(1,1,1)] (qS D ((lim (ab y)).length) d) a (eC 6 30 a (fun _ _ a=>kU (ab x) A c j (ab y) D d i oM oM oM _ _ a.g a.f.2.1 a.f.1) ?_))))));rintro _ _ _ _ _ a ⟨Y,I,rfl,X,W⟩;replace a:=a.aS W;refine eC 7 31 a (fun _ _ a=>rI true ((ab x)-(ab y)) Y I X _ _ a.g a.f.1) ?_;rintro _ _ _ _ _ a ⟨l,z,rfl,K,O⟩;replace a:=a.aS O;exact bP a (fun _ _ a=>tP 8 0 0 ([.bool (af (bu true ((ab x)-(ab y)))),qS l ((lim (ab (bu true ((ab x)-(ab y))))).length) z]) a (fun _ a=>tN (kX (a.ret [(0,0,2)] (.agg #[.bool (af (bu true ((ab x)-(ab y)))),qS l ((lim (ab (bu true ((ab x)-(ab y))))).length) z]) (by rw[show x+y=(bu true ((ab x)-(ab y))) by unfold bu ab at *;simp;omega];exact ⟨_,_,rfl,K,a.f.1⟩)))))
theorem vk (x:Int)(A:Option Addr)(c:Nat)(J:(lim (ab x)).length<=c)(I:(lim (ab x)).length<=2000000000)(y:Int)(D:Option Addr)(d:Nat)(u:(lim (ab y)).length<=d)(M:(lim (ab y)).length<=2000000000)(H:af x=true)(l:af y=true)(w:World)(h:Hp)(g:G w h)(K:S3 A (lim (ab x)) h)(i:S3 D (lim (ab y)) h):CR 107 #[.agg #[.bool true,.slice A ((lim (ab x)).length) c],.agg #[.bool true,.slice D ((lim (ab y)).length) d]] w h (fun v h1=>RI h1 v (x+y)):=by
 have a:=(((sS g).aS K).aS i);have B:=bj H;have O:=bj l;refine go Tryz.func107 [(0,.agg #[qT,qS A ((lim (ab x)).length) c]),(1,.agg #[qT,qS D ((lim (ab y)).length) d])] rfl (ax (lA 2 26 ([qT,qS A ((lim (ab x)).length) c]) a (fun b w2 W a=>lA 3 26 ([qT,qS D ((lim (ab y)).length) d]) a (fun e X V a=>lA 4 26 ([qF,sZ]) a (fun U S Q a=>ah (aa a [.v (pB b),.o qT 2 0 1,.v (pB e),.o qT 1 0 1,.v qT] (ak (cQ (cR 8 [] mixed a ao ?_)))))))));refine eV 0 10 (pB b) (eO 1 11 [(2,0,1)] qT a (eV 2 12 (qP b 1) (eO 3 13 [(2,1,1)] (qS A ((lim (ab x)).length) c) a (eV 4 14 (qP e 1) (eO 5 15 [(1,1,1)] (qS D ((lim (ab y)).length) d) a (eC 6 16 a (fun _ _ a=>tE (ab x) A c J (ab y) D d u oM oM _ _ a.g a.f.2.1 a.f.1) ?_))))));rintro _ _ _ _ _ a ⟨F,C,rfl,p,z⟩;replace a:=a.aS z;refine eC 7 17 a (fun _ _ a=>rI true ((ab x)+(ab y)) F C p _ _ a.g a.f.1) ?_;rintro _ _ _ _ _ a ⟨za,zb,rfl,j,L⟩;replace a:=a.aS L;exact bP a (fun _ _ a=>tP 8 0 0 ([.bool (af (bu true ((ab x)+(ab y)))),qS za ((lim (ab (bu true ((ab x)+(ab y))))).length) zb]) a (fun _ a=>tN (kX (a.ret [(0,0,2)] (.agg #[.bool (af (bu true ((ab x)+(ab y)))),qS za ((lim (ab (bu true ((ab x)+(ab y))))).length) zb]) (by rw[show x+y=(bu true ((ab x)+(ab y))) by unfold bu ab at *;simp;omega];exact ⟨_,_,rfl,j,a.f.1⟩)))))
theorem uf (x:Int)(A:Option Addr)(c:Nat)(j:(lim (ab x)).length<=c)(a:(lim (ab x)).length<=2000000000)(y:Int)(D:Option Addr)(d:Nat)(i:(lim (ab y)).length<=d)(b:(lim (ab y)).length<=2000000000)(w:World)(h:Hp)(g:G w h)(f:S3 A (lim (ab x)) h)(e:S3 D (lim (ab y)) h):CR 107 #[.agg #[.bool (af x),.slice A (lim (ab x)).length c],.agg #[.bool (af y),.slice D (lim (ab y)).length d]] w h (fun v h1=>RI h1 v (x+y)):=by
 rcases hx:af x with _|_<;>rcases hy:af y with _|_
 ·exact vD x A c j a y D d i b hx hy w h g f e
 ·exact vm x A c j a y D d i b hx hy w h g f e
 ·exact vv x A c j a y D d i b hx hy w h g f e
 ·exact vk x A c j a y D d i b hx hy w h g f e
theorem vG (x:Int)(A:Option Addr)(c:Nat)(u:(lim (ab x)).length<=c)(j:(lim (ab x)).length<=2000000000)(hz:x=0)(w:World)(h:Hp)(g:G w h)(i:S3 A (lim (ab x)) h):CV 135 #[.agg #[.bool (af x),.slice A ((lim (ab x)).length) c]] w h (iV x.sign):=by
 have a:=((sS g).aS i);have f:=@bR (ab x);have e:ab x=x.natAbs:=rfl;refine go Tryz.func135 [(0,.agg #[.bool (af x),qS A ((lim (ab x)).length) c])] rfl (ax (lA 1 26 ([.bool (af x),qS A ((lim (ab x)).length) c]) a (fun l w2 p a=>lL a ac (ah (kZ (aa a [.v (qP l 1),.o (qS A ((lim (ab x)).length) c) 0 1 1,.v (nV ((lim (ab x)).length))] ?_))))));have b:((((lim (ab x)).length:Nat):Int) == (0:Int))=true:=sN oM;have d:=eq_of_beq b;exact lB 7 b (lL a ac (ak (aa a ac (ae a [] (iV 0) (by subst hz;rfl)))))
theorem vf (x:Int)(A:Option Addr)(c:Nat)(u:(lim (ab x)).length<=c)(l:(lim (ab x)).length<=2000000000)(hz:x<0)(w:World)(h:Hp)(g:G w h)(j:S3 A (lim (ab x)) h):CV 135 #[.agg #[.bool true,.slice A ((lim (ab x)).length) c]] w h (iV x.sign):=by
 have a:=((sS g).aS j);have i:=@bR (ab x);have f:ab x=x.natAbs:=rfl;refine go Tryz.func135 [(0,.agg #[qT,qS A ((lim (ab x)).length) c])] rfl (ax (lA 1 26 ([qT,qS A ((lim (ab x)).length) c]) a (fun d w2 p a=>lL a ac (ah (kZ (aa a [.v (qP d 1),.o (qS A ((lim (ab x)).length) c) 0 1 1,.v (nV ((lim (ab x)).length))] ?_))))));have b:((((lim (ab x)).length:Nat):Int) == (0:Int))=false:=eM oM;have e:=aj b;exact lB 7 b (lL a ac (ag (aa a [.v (pB d),.o qT 0 0 1,.c] (ak (aa a ac (ae a [] (iV (-1)) (by rw[Nm hz])))))))
theorem vh (x:Int)(A:Option Addr)(c:Nat)(u:(lim (ab x)).length<=c)(l:(lim (ab x)).length<=2000000000)(hz:0<x)(w:World)(h:Hp)(g:G w h)(j:S3 A (lim (ab x)) h):CV 135 #[.agg #[.bool false,.slice A ((lim (ab x)).length) c]] w h (iV x.sign):=by
 have a:=((sS g).aS j);have i:=@bR (ab x);have f:ab x=x.natAbs:=rfl;refine go Tryz.func135 [(0,.agg #[qF,qS A ((lim (ab x)).length) c])] rfl (ax (lA 1 26 ([qF,qS A ((lim (ab x)).length) c]) a (fun d w2 p a=>lL a ac (ah (kZ (aa a [.v (qP d 1),.o (qS A ((lim (ab x)).length) c) 0 1 1,.v (nV ((lim (ab x)).length))] ?_))))));have b:((((lim (ab x)).length:Nat):Int) == (0:Int))=false:=eM oM;have e:=aj b;exact lB 7 b (lL a ac (ag (aa a [.v (pB d),.o qF 0 0 1,.c] (ag (cK (aa a ac (ae a [] (iV 1) (by rw[Np hz]))))))))
theorem qt (x:Int)(A:Option Addr)(c:Nat)(d:(lim (ab x)).length<=c)(a:(lim (ab x)).length<=2000000000)(w:World)(h:Hp)(g:G w h)(b:S3 A (lim (ab x)) h):CV 135 #[.agg #[.bool (af x),.slice A (lim (ab x)).length c]] w h (iV x.sign):=by
 rcases Nl x 0 with hz|hz|hz
 ·have:=vf x A c d a hz w h g b
  rwa [<-show af x=true by simp[af,hz]] at this
 ·exact vG x A c d a hz w h g b
 ·have:=vh x A c d a hz w h g b
  rwa [<-show af x=false by simp[af];omega] at this
theorem Ch (x:Int)(A:Option Addr)(c:Nat)(B:(lim (ab x)).length<=c)(z:(lim (ab x)).length<=2000000000)(y:Int)(D:Option Addr)(d:Nat)(j:(lim (ab y)).length<=d)(H:(lim (ab y)).length<=2000000000)(w:World)(h:Hp)(g:G w h)(C:S3 A (lim (ab x)) h)(b:S3 D (lim (ab y)) h):CR 162 #[.agg #[.bool (af x),.slice A ((lim (ab x)).length) c],.agg #[.bool (af y),.slice D ((lim (ab y)).length) d]] w h (fun v h1=>RI h1 v (x-y)):=by
 have a:=(((sS g).aS C).aS b);have p:(lim (ab (-y))).length=(lim (ab y)).length:=by unfold ab;rw[NK]
 refine go Tryz.func162 [(0,.agg #[.bool (af x),qS A ((lim (ab x)).length) c]),(1,.agg #[.bool (af y),qS D ((lim (ab y)).length) d])] rfl (ax (lA 2 26 ([.bool (af x),qS A ((lim (ab x)).length) c]) a (fun S w2 M a=>lA 3 26 ([.bool (af y),qS D ((lim (ab y)).length) d]) a (fun Q O L a=>lA 4 26 ([qF,sZ]) a (fun K J I a=>ah (cR 4 [] mixed a ao ?_))))));refine eO 0 5 [(2,0,2)] (.agg #[.bool (af x),qS A ((lim (ab x)).length) c]) a (eO 1 6 [(1,0,2)] (.agg #[.bool (af y),qS D ((lim (ab y)).length) d]) a (eC 2 7 a (fun _ _ a=>td y D d j oM _ _ a.g a.f.1) ?_));rintro _ _ _ _ _ a ⟨u,o,rfl,i,l⟩;replace a:=a.aS l;refine eC 3 8 a (fun _ _ a=>uf x A c B oM (-y) u o i oM _ _ a.g a.f.r.1 a.f.1) ?_;rintro _ _ _ _ _ a ⟨za,zb,rfl,e,F⟩;replace a:=a.aS F;exact bP a (fun _ _ a=>tP 4 0 0 ([.bool (af (x+(-y))),qS za ((lim (ab (x+(-y)))).length) zb]) a (fun _ a=>tN (kX (a.ret [(0,0,2)] (.agg #[.bool (af (x+(-y))),qS za ((lim (ab (x+(-y)))).length) zb]) (by rw[Int.sub_eq_add_neg];exact ⟨_,_,rfl,e,a.f.1⟩)))))
theorem vI (x y:Int):(x-y).sign=ek x y:=by
 unfold ek
 rcases Nl x y with h|h|h
 ·rw[if_pos h,Nm oM]
 ·subst h;simp
 ·rw[if_neg oM,if_pos h,Np oM]
theorem CY (x:Int)(A:Option Addr)(c:Nat)(u:(lim (ab x)).length<=c)(b:(lim (ab x)).length<=1999999999)(y:Int)(D:Option Addr)(d:Nat)(l:(lim (ab y)).length<=d)(i:(lim (ab y)).length<=1999999999)(w:World)(h:Hp)(g:G w h)(z:S3 A (lim (ab x)) h)(j:S3 D (lim (ab y)) h):CV 138 #[.agg #[.bool (af x),.slice A ((lim (ab x)).length) c],.agg #[.bool (af y),.slice D ((lim (ab y)).length) d]] w h (iV (ek x y)):=by
 have a:=(((sS g).aS z).aS j);have C:(lim (ab (x-y))).length<=2000000000:=gE (show ab (x-y)<=ab x+ab y by unfold ab;omega) (iP b i);refine go Tryz.func138 [(0,.agg #[.bool (af x),qS A ((lim (ab x)).length) c]),(1,.agg #[.bool (af y),qS D ((lim (ab y)).length) d])] rfl (ax (lA 2 26 ([.bool (af x),qS A ((lim (ab x)).length) c]) a (fun K w2 H a=>lA 3 26 ([.bool (af y),qS D ((lim (ab y)).length) d]) a (fun J I F a=>lL a ac (aG (lL a [.o (.agg #[.bool (af x),qS A ((lim (ab x)).length) c]) 1 0 2,.o (.agg #[.bool (af y),qS D ((lim (ab y)).length) d]) 0 0 2] (lC 7 a (Ch x A c u oM y D d l oM _ _ a.g a.f.2.1 a.f.1) ?_)))))));rintro _ _ _ a ⟨B,p,rfl,e,za⟩;replace a:=a.aS za;exact ar 8 a (qt (x-y) B p e oM _ _ a.g a.f.1) (fun _ _ a=>lL a ac (ae a [] (iV (((x-y)).sign)) (by rw[vI])))
theorem x3 (a:Nat)(A:Option Addr)(c:Nat)(l:(lim a).length<=c)(b:Nat)(D:Option Addr)(d:Nat)(j:(lim b).length<=d)(q:Nat)(hq:q=MX a b)(f:(lim a).length<=3000000000)(e:(lim b).length<=3000000000)(w:World)(h:Hp)(g:G w h)(o:S3 A (lim a) h)(i:S3 D (lim b) h):CR 139 #[.slice A (lim a).length c,.slice D (lim b).length d] w h (fun v h1=>RN h1 v q):=by
 subst hq;exact Cf a A c l b D d j f e w h g o i
theorem nW (n d:Int)(j:d≠0):(mkR n d).num=bu (af n != af d) (ab n/MX (ab n) (ab d))/\(mkR n d).den=ab d/MX (ab n) (ab d)/\0<MX (ab n) (ab d):=by
  have c:0<ab d:=by unfold ab;omega
  have hz:ab (if d<0 then -n else n)=ab n:=by unfold ab;split<;>omega
  obtain ⟨h1,i,l,f⟩:=iQ (if d<0 then -n else n) (ab d) c;rw[hz] at h1 i l f
  refine ⟨?_,i,f⟩;have h:=rB _ _ l;rw[hz] at h
  show (mkRat _ _).num=_
  rw[h1,<-h]
  by_cases hn:n=0
  . have hk:ab n/MX (ab n) (ab d)=0:=by rw[hn];exact Nat.zero_div _
    rw[hk]
    unfold bu
    simp
  . have e:decide ((if d<0 then -n else n).sign<0)=(af n != af d):=by
      unfold af
      rcases Nl n 0 with a|a|a
      . rcases Nl d 0 with b|b|b
        . rw[if_pos b,Np oM];simp[a,b]
        . exact absurd b j
        . rw[if_neg oM,Nm a];simp[a,show ¬d<0 by omega]
      . exact absurd a hn
      . rcases Nl d 0 with b|b|b
        . rw[if_pos b,Nm oM];simp[show ¬n<0 by omega,b]
        . exact absurd b j
        . rw[if_neg oM,Np a];simp[show ¬n<0 by omega,show ¬d<0 by omega]
    rw[e]
theorem xC (x:Int)(A:Option Addr)(c:Nat)(L:(lim (ab x)).length<=c)(X:(lim (ab x)).length<=2000000000)(y:Int)(D:Option Addr)(d:Nat)(H:(lim (ab y)).length<=d)(C:(lim (ab y)).length<=2000000000)(B:y≠0)(w:World)(h:Hp)(g:G w h)(hA:S3 A (lim (ab x)) h)(O:S3 D (lim (ab y)) h):CR 106 #[.agg #[.bool (af x),.slice A ((lim (ab x)).length) c],.agg #[.bool (af y),.slice D ((lim (ab y)).length) d]] w h (fun v h1=>RQ h1 v (mkR x y)):=by
 have a:=(((sS g).aS hA).aS O);obtain ⟨j,i,hq0⟩:=nW x y B;obtain ⟨q,hq⟩:∃ q,q=MX (ab x) (ab y):=⟨_,rfl⟩;rw[<-hq] at j i hq0
 have U:(lim q).length<=2000000000:=gE (by rw[hq];exact NI _ (by unfold ab;omega)) C;refine go Tryz.func106 [(0,.agg #[.bool (af x),qS A ((lim (ab x)).length) c]),(1,.agg #[.bool (af y),qS D ((lim (ab y)).length) d])] rfl (ax (lA 2 26 ([.bool (af x),qS A ((lim (ab x)).length) c]) a (fun z w2 h3 a=>lA 3 26 ([.bool (af y),qS D ((lim (ab y)).length) d]) a (fun u w5 h6 a=>lA 4 28 cD a (fun b7 w8 h9 a=>aG (lL a [.v (qP z 1),.o (qS A ((lim (ab x)).length) c) 2 1 1,.v (qP u 1),.o (qS D ((lim (ab y)).length) d) 1 1 1] (lC 14 a (x3 (ab x) A c L (ab y) D d H q hq oM oM _ _ a.g a.f.2.1 a.f.1) ?_)))))));rintro _ _ _ a ⟨M,K,rfl,F,Q⟩;replace a:=a.aS Q;refine lL a ac (aG (lL a [.v (qP z 1),.o (qS A ((lim (ab x)).length) c) 2 1 1,.c] (lC 19 a (oq (ab x) A c L q M K F oM oM hq0 _ _ a.g a.f.r.1 a.f.1) ?_)));rintro _ _ _ a ⟨_,e,rfl,⟨J,I,rfl,Z,Y⟩,-⟩;replace a:=a.aS Y;refine lL a [.c,.v (qS J ((lim ((ab x)/q)).length) I),.v e,.c,.c] (aG (lL a [.v (qP u 1),.o (qS D ((lim (ab y)).length) d) 1 1 1,.c] (lC 26 a (oq (ab y) D d H q M K F oM oM hq0 _ _ a.g a.f.r.1 a.f.2.1) ?_)));rintro _ _ _ a ⟨_,b,rfl,⟨za,zb,rfl,S,V⟩,-⟩;replace a:=a.aS V;refine lL a [.c,.v (qS za ((lim ((ab y)/q)).length) zb),.v b,.c,.c] (aG (lL a [.v (pB z),.o (.bool (af x)) 2 0 1,.v (pB u),.o (.bool (af y)) 1 0 1,.v (.bool ((af x) != (af y))),.c] (lC 35 a (rI ((af x) != (af y)) ((ab x)/q) J I Z _ _ a.g a.f.2.1) ?_)));rintro _ _ _ a ⟨p,l,rfl,W,zq⟩;replace a:=a.aS zq;exact lL a [.c,.v (.agg #[.bool (af (bu ((af x) != (af y)) ((ab x)/q))),qS p ((lim (ab (bu ((af x) != (af y)) ((ab x)/q)))).length) l,qS za ((lim ((ab y)/q)).length) zb])] (lP 0 0 ([.bool (af (bu ((af x) != (af y)) ((ab x)/q))),qS p ((lim (ab (bu ((af x) != (af y)) ((ab x)/q)))).length) l,qS za ((lim ((ab y)/q)).length) zb]) a (fun _ a=>ae a [(0,0,3)] (.agg #[.bool (af (bu ((af x) != (af y)) ((ab x)/q))),qS p ((lim (ab (bu ((af x) != (af y)) ((ab x)/q)))).length) l,qS za ((lim ((ab y)/q)).length) zb]) (by unfold RQ;rw[j,i];exact ⟨_,_,_,_,rfl,W,S,a.f.1,a.f.2.1⟩)))
theorem iB (x:Int)(d:Nat):(lim (ab (x*((d:Nat):Int)))).length<=(lim (ab x)).length+(lim d).length:=by
 have:ab (x*((d:Nat):Int))=ab x*d:=Ni x (d:Int);rw[this];exact gu
theorem vL (a:Rat)(e:Option Addr)(c1:Nat)(c:Option Addr)(d:Nat)(B:(lim (ab a.num)).length<=c1)(l:(lim a.den).length<=d)(y:(lim (ab a.num)).length<=300000000)(C:(lim a.den).length<=300000000)(w:World)(h:Hp)(g:G w h)(i:S3 e (lim (ab a.num)) h)(j:S3 c (lim a.den) h):CR 109 #[.agg #[.bool (af a.num),.slice e ((lim (ab a.num)).length) c1,.slice c ((lim (a.den)).length) d]] w h (fun v h1=>RI h1 v (a.den:Int)):=by
 have b:=(((sS g).aS i).aS j);refine go Tryz.func109 [(0,.agg #[.bool (af a.num),qS e ((lim (ab a.num)).length) c1,qS c ((lim (a.den)).length) d])] rfl (ax (lA 1 28 ([.bool (af a.num),qS e ((lim (ab a.num)).length) c1,qS c ((lim (a.den)).length) d]) b (fun z w2 F b=>lA 2 26 ([qF,sZ]) b (fun I H D b=>aG (lL b [.v (qP z 2),.o (qS c ((lim (a.den)).length) d) 1 2 1] (lC 5 b (rI false a.den c d l _ _ b.g b.f.1) ?_))))));rintro _ _ _ b ⟨x,u,rfl,p,za⟩;replace b:=b.aS za;exact lP 0 0 ([.bool (af (bu false a.den)),qS x ((lim (ab (bu false a.den))).length) u]) b (fun _ b=>ae b [(0,0,2)] (.agg #[.bool (af (bu false a.den)),qS x ((lim (ab (bu false a.den))).length) u]) (⟨_,_,rfl,p,b.f.1⟩))
theorem xK (a:Rat)(c:Option Addr)(c1:Nat)(d:Option Addr)(e:Nat)(l:(lim (ab a.num)).length<=c1)(u:(lim a.den).length<=e)(p:(lim (ab a.num)).length<=300000000)(y:(lim a.den).length<=300000000)(w:World)(h:Hp)(g:G w h)(i:S3 c (lim (ab a.num)) h)(j:S3 d (lim a.den) h):CV 103 #[.agg #[.bool (af a.num),.slice c ((lim (ab a.num)).length) c1,.slice d ((lim (a.den)).length) e]] w h (iV a.num.sign):=by
 have b:=(((sS g).aS i).aS j);exact go Tryz.func103 [(0,.agg #[.bool (af a.num),qS c ((lim (ab a.num)).length) c1,qS d ((lim (a.den)).length) e])] rfl (ax (lA 1 28 ([.bool (af a.num),qS c ((lim (ab a.num)).length) c1,qS d ((lim (a.den)).length) e]) b (fun x w2 z b=>lL b ac (aG (lL b [.v (pB x),.o (.agg #[.bool (af a.num),qS c ((lim (ab a.num)).length) c1]) 0 0 2] (ar 5 b (qt a.num c c1 l oM _ _ b.g b.f.2.1) (fun B C b=>lL b ac (ae b [] (iV ((a.num).sign)) rfl))))))))
theorem IC (a:Rat)(d:Option Addr)(c1:Nat)(j:Option Addr)(l:Nat)(u:(lim (ab a.num)).length<=c1)(B:(lim a.den).length<=l)(K:(lim (ab a.num)).length<=300000000)(hm1:(lim a.den).length<=300000000)(b:Rat)(e:Option Addr)(c2:Nat)(i:Option Addr)(o:Nat)(p:(lim (ab b.num)).length<=c2)(C:(lim b.den).length<=o)(X:(lim (ab b.num)).length<=300000000)(U:(lim b.den).length<=300000000)(w:World)(h:Hp)(g:G w h)(x:S3 d (lim (ab a.num)) h)(z:S3 j (lim a.den) h)(D:S3 e (lim (ab b.num)) h)(y:S3 i (lim b.den) h):CV 105 #[.agg #[.bool (af a.num),.slice d ((lim (ab a.num)).length) c1,.slice j ((lim (a.den)).length) l],.agg #[.bool (af b.num),.slice e ((lim (ab b.num)).length) c2,.slice i ((lim (b.den)).length) o]] w h (iV (dg a b)):=by
 have c:=(((((sS g).aS x).aS z).aS D).aS y);have hx1:=iB a.num b.den;have hx2:=iB b.num a.den;refine go Tryz.func105 [(0,.agg #[.bool (af a.num),qS d ((lim (ab a.num)).length) c1,qS j ((lim (a.den)).length) l]),(1,.agg #[.bool (af b.num),qS e ((lim (ab b.num)).length) c2,qS i ((lim (b.den)).length) o])] rfl (ax (lA 2 28 ([.bool (af a.num),qS d ((lim (ab a.num)).length) c1,qS j ((lim (a.den)).length) l]) c (fun Y w2 h3 c=>lA 3 28 ([.bool (af b.num),qS e ((lim (ab b.num)).length) c2,qS i ((lim (b.den)).length) o]) c (fun W w5 h6 c=>lL c ac (ah (cR 11 [] mixed c ao ?_))))));refine eV 0 5 (pB Y) (eO 1 6 [(1,0,2)] (.agg #[.bool (af a.num),qS d ((lim (ab a.num)).length) c1]) c (eO 2 7 [(0,0,3)] (.agg #[.bool (af b.num),qS e ((lim (ab b.num)).length) c2,qS i ((lim (b.den)).length) o]) c (eV 5 10 (pB W) (eO 6 11 [(0,0,2)] (.agg #[.bool (af b.num),qS e ((lim (ab b.num)).length) c2]) c (eO 7 12 [(1,0,3)] (.agg #[.bool (af a.num),qS d ((lim (ab a.num)).length) c1,qS j ((lim (a.den)).length) l]) c (eC 3 8 c (fun _ _ c=>vL b e c2 i o p C oM oM _ _ c.g c.f.2.1 c.f.1) ?_))))));rintro _ _ _ _ _ c ⟨A7,S,rfl,F,za⟩;replace c:=c.aS za;refine eC 4 9 c (fun _ _ c=>ip a.num d c1 u oM (b.den:Int) A7 S F (show (lim (b.den)).length<=2000000000 by omega) _ _ c.g c.f.q.1 c.f.1) ?_;rintro _ _ _ _ _ c ⟨Q,M,rfl,zb,J⟩;replace c:=c.aS J;refine eC 8 13 c (fun _ _ c=>vL a d c1 j l u B oM oM _ _ c.g c.f.q.2.1 c.f.q.1) ?_;rintro _ _ _ _ _ c ⟨I,zl,rfl,L,H⟩;replace c:=c.aS H;refine eC 9 14 c (fun _ _ c=>ip b.num e c2 p oM (a.den:Int) I zl L (show (lim (a.den)).length<=2000000000 by omega) _ _ c.g c.f.q.1 c.f.1) ?_;rintro _ _ _ _ _ c ⟨Z,O,rfl,zf,V⟩;replace c:=c.aS V;exact au 10 15 c (fun _ _ c=>CY (a.num*(b.den:Int)) Q M zb oM (b.num*(a.den:Int)) Z O zf oM _ _ c.g c.f.r.1 c.f.1) (fun _ _ c=>bP c (fun _ _ c=>tV 11 4 (iV (ek (a.num*(b.den:Int)) (b.num*(a.den:Int)))) (tN (kX (c.ret [] (iV (ek (a.num*(b.den:Int)) (b.num*(a.den:Int)))) rfl)))))
theorem x8 (x y:Int){k:Nat}(b:(lim (ab x)).length<=k)(a:(lim (ab y)).length<=k):(lim (ab (x+y))).length<=k+1:=gE (show ab (x+y)<=ab x+ab y from NJ x y) (iP b a)
theorem n8 (x y:Int):(lim (ab (x*y))).length<=(lim (ab x)).length+(lim (ab y)).length:=by
 have:ab (x*y)=ab x*ab y:=Ni x y;rw[this];exact gu
theorem tZ (z:Int)(n:Nat):mkR z (bu false n)=mkRat z n:=by
 have h1:bu false n=(n:Int):=rfl;rw[h1];unfold mkR;rw[if_neg oM];rfl
theorem DH (a b:Rat):mkR (a.num*((b.den:Nat):Int)+b.num*((a.den:Nat):Int)) (bu false (a.den*b.den))=a+b:=by
 rw[tZ,Rat.add_def,NN]
theorem Ea (a b:Rat):mkR (a.num*b.num) (bu false (a.den*b.den))=a*b:=by
 rw[tZ,Rat.mul_def,NN]
theorem Fi (a b:Rat):bu false (a.den*b.den)≠0:=by
 have h:=Nat.mul_pos a.den_pos b.den_pos
 show ((a.den*b.den:Nat):Int)≠0
 omega
theorem D7 (a:Rat)(d:Option Addr)(c1:Nat)(l:Option Addr)(i:Nat)(x:(lim (ab a.num)).length<=c1)(p:(lim a.den).length<=i)(hn1:(lim (ab a.num)).length<=300000000)(hm1:(lim a.den).length<=300000000)(b:Rat)(e:Option Addr)(c2:Nat)(j:Option Addr)(o:Nat)(y:(lim (ab b.num)).length<=c2)(u:(lim b.den).length<=o)(hn2:(lim (ab b.num)).length<=300000000)(Z:(lim b.den).length<=300000000)(w:World)(h:Hp)(g:G w h)(C:S3 d (lim (ab a.num)) h)(z:S3 l (lim a.den) h)(B:S3 e (lim (ab b.num)) h)(D:S3 j (lim b.den) h):CR 61 #[.agg #[.bool (af a.num),.slice d ((lim (ab a.num)).length) c1,.slice l ((lim (a.den)).length) i],.agg #[.bool (af b.num),.slice e ((lim (ab b.num)).length) c2,.slice j ((lim (b.den)).length) o]] w h (fun v h1=>RQ h1 v (a+b)):=by
 have c:=(((((sS g).aS C).aS z).aS B).aS D);have hx1:=iB a.num b.den;have V:=iB b.num a.den;have hxs:=x8 (a.num*(b.den:Int)) (b.num*(a.den:Int)) (k:=600000000) oM oM;have hdl:=@gu a.den b.den;refine go Tryz.func61 [(0,.agg #[.bool (af a.num),qS d ((lim (ab a.num)).length) c1,qS l ((lim (a.den)).length) i]),(1,.agg #[.bool (af b.num),qS e ((lim (ab b.num)).length) c2,qS j ((lim (b.den)).length) o])] rfl (ax (lA 2 28 ([.bool (af a.num),qS d ((lim (ab a.num)).length) c1,qS l ((lim (a.den)).length) i]) c (fun H w2 h3 c=>lA 3 28 ([.bool (af b.num),qS e ((lim (ab b.num)).length) c2,qS j ((lim (b.den)).length) o]) c (fun F w5 h6 c=>lA 4 28 cD c (fun b7 w8 h9 c=>ah (cR 18 [] mixed c ao ?_))))));refine eV 0 5 (pB H) (eO 1 6 [(2,0,2)] (.agg #[.bool (af a.num),qS d ((lim (ab a.num)).length) c1]) c (eO 2 7 [(1,0,3)] (.agg #[.bool (af b.num),qS e ((lim (ab b.num)).length) c2,qS j ((lim (b.den)).length) o]) c (eV 5 10 (pB F) (eO 6 11 [(1,0,2)] (.agg #[.bool (af b.num),qS e ((lim (ab b.num)).length) c2]) c (eO 7 12 [(2,0,3)] (.agg #[.bool (af a.num),qS d ((lim (ab a.num)).length) c1,qS l ((lim (a.den)).length) i]) c (eV 11 16 (qP H 2) (eO 12 17 [(2,2,1)] (qS l ((lim (a.den)).length) i) c (eV 13 18 (qP F 2) (eO 14 19 [(1,2,1)] (qS j ((lim (b.den)).length) o) c (eC 3 8 c (fun _ _ c=>vL b e c2 j o y u oM oM _ _ c.g c.f.2.1 c.f.1) ?_))))))))));rintro _ _ _ _ _ c ⟨zx,zA,rfl,X,zf⟩;replace c:=c.aS zf;refine eC 4 9 c (fun _ _ c=>ip a.num d c1 x oM (b.den:Int) zx zA X (show (lim (b.den)).length<=2000000000 by omega) _ _ c.g c.f.q.1 c.f.1) ?_;rintro _ _ _ _ _ c ⟨K,zD,rfl,zg,zi⟩;replace c:=c.aS zi;refine eC 8 13 c (fun _ _ c=>vL a d c1 l i x p oM oM _ _ c.g c.f.q.2.1 c.f.q.1) ?_;rintro _ _ _ _ _ c ⟨zE,zG,rfl,zj,L⟩;replace c:=c.aS L;refine eC 9 14 c (fun _ _ c=>ip b.num e c2 y oM (a.den:Int) zE zG zj (show (lim (a.den)).length<=2000000000 by omega) _ _ c.g c.f.q.1 c.f.1) ?_;rintro _ _ _ _ _ c ⟨zH,zI,rfl,zl,zm⟩;replace c:=c.aS zm;refine eC 10 15 c (fun _ _ c=>uf (a.num*(b.den:Int)) K zD zg oM (b.num*(a.den:Int)) zH zI zl oM _ _ c.g c.f.r.1 c.f.1) ?_;rintro _ _ _ _ _ c ⟨zJ,M,rfl,O,S⟩;replace c:=c.aS S;refine eC 15 20 c (fun _ _ c=>o9 a.den l i p b.den j o u oM oM _ _ c.g c.f.q.r.2.1 c.f.q.2.1) ?_;rintro _ _ _ _ _ c ⟨zL,zM,rfl,zp,zq⟩;replace c:=c.aS zq;refine eC 16 21 c (fun _ _ c=>rI false (a.den*b.den) zL zM zp _ _ c.g c.f.1) ?_;rintro _ _ _ _ _ c ⟨Y,zP,rfl,W,zs⟩;replace c:=c.aS zs;refine eC 17 22 c (fun _ _ c=>xC ((a.num*(b.den:Int))+(b.num*(a.den:Int))) zJ M O oM (bu false (a.den*b.den)) Y zP W (show (lim ((a.den*b.den))).length<=2000000000 by omega) (Fi a b) _ _ c.g c.f.r.1 c.f.1) ?_;rintro _ _ _ _ _ c ⟨za,zb,I,J,rfl,zt,zu,U,Q⟩;replace c:=c.aP U Q;exact bP c (fun _ _ c=>tP 18 0 0 (gY (mkR ((a.num*(b.den:Int))+(b.num*(a.den:Int))) (bu false (a.den*b.den))) za zb I J) c (fun _ c=>tN (kX (c.ret [(0,0,3)] (rG (mkR ((a.num*(b.den:Int))+(b.num*(a.den:Int))) (bu false (a.den*b.den))) za zb I J) (by rw[<-DH a b];exact ⟨_,_,_,_,rfl,zt,zu,c.f.2.1,c.f.1⟩)))))
theorem FY (a:Rat)(i:Option Addr)(c1:Nat)(e:Option Addr)(l:Nat)(D:(lim (ab a.num)).length<=c1)(z:(lim a.den).length<=l)(O:(lim (ab a.num)).length<=300000000)(hm1:(lim a.den).length<=300000000)(b:Rat)(j:Option Addr)(c2:Nat)(d:Option Addr)(o:Nat)(y:(lim (ab b.num)).length<=c2)(B:(lim b.den).length<=o)(hn2:(lim (ab b.num)).length<=300000000)(Y:(lim b.den).length<=300000000)(w:World)(h:Hp)(g:G w h)(p:S3 i (lim (ab a.num)) h)(x:S3 e (lim a.den) h)(C:S3 j (lim (ab b.num)) h)(u:S3 d (lim b.den) h):CR 134 #[.agg #[.bool (af a.num),.slice i ((lim (ab a.num)).length) c1,.slice e ((lim (a.den)).length) l],.agg #[.bool (af b.num),.slice j ((lim (ab b.num)).length) c2,.slice d ((lim (b.den)).length) o]] w h (fun v h1=>RQ h1 v (a*b)):=by
 have c:=(((((sS g).aS p).aS x).aS C).aS u);have hx1:=n8 a.num b.num;have V:=@gu a.den b.den;refine go Tryz.func134 [(0,.agg #[.bool (af a.num),qS i ((lim (ab a.num)).length) c1,qS e ((lim (a.den)).length) l]),(1,.agg #[.bool (af b.num),qS j ((lim (ab b.num)).length) c2,qS d ((lim (b.den)).length) o])] rfl (ax (lA 2 28 ([.bool (af a.num),qS i ((lim (ab a.num)).length) c1,qS e ((lim (a.den)).length) l]) c (fun J w2 h3 c=>lA 3 28 ([.bool (af b.num),qS j ((lim (ab b.num)).length) c2,qS d ((lim (b.den)).length) o]) c (fun I w5 h6 c=>lA 4 28 cD c (fun b7 w8 h9 c=>ah (cR 12 [] mixed c ao ?_))))));refine eV 0 5 (pB J) (eO 1 6 [(2,0,2)] (.agg #[.bool (af a.num),qS i ((lim (ab a.num)).length) c1]) c (eV 2 7 (pB I) (eO 3 8 [(1,0,2)] (.agg #[.bool (af b.num),qS j ((lim (ab b.num)).length) c2]) c (eV 5 10 (qP J 2) (eO 6 11 [(2,2,1)] (qS e ((lim (a.den)).length) l) c (eV 7 12 (qP I 2) (eO 8 13 [(1,2,1)] (qS d ((lim (b.den)).length) o) c (eC 4 9 c (fun _ _ c=>ip a.num i c1 D oM b.num j c2 y oM _ _ c.g c.f.r.2.1 c.f.2.1) ?_))))))));rintro _ _ _ _ _ c ⟨zp,zq,rfl,L,zf⟩;replace c:=c.aS zf;refine eC 9 14 c (fun _ _ c=>o9 a.den e l z b.den d o B oM oM _ _ c.g c.f.r.2.1 c.f.2.1) ?_;rintro _ _ _ _ _ c ⟨zr,Q,rfl,Z,W⟩;replace c:=c.aS W;refine eC 10 15 c (fun _ _ c=>rI false (a.den*b.den) zr Q Z _ _ c.g c.f.1) ?_;rintro _ _ _ _ _ c ⟨K,zu,rfl,S,M⟩;replace c:=c.aS M;refine eC 11 16 c (fun _ _ c=>xC (a.num*b.num) zp zq L oM (bu false (a.den*b.den)) K zu S (show (lim ((a.den*b.den))).length<=2000000000 by omega) (Fi a b) _ _ c.g c.f.r.1 c.f.1) ?_;rintro _ _ _ _ _ c ⟨za,zb,F,H,rfl,zl,zm,U,X⟩;replace c:=c.aP U X;exact bP c (fun _ _ c=>tP 12 0 0 (gY (mkR (a.num*b.num) (bu false (a.den*b.den))) za zb F H) c (fun _ c=>tN (kX (c.ret [(0,0,3)] (rG (mkR (a.num*b.num) (bu false (a.den*b.den))) za zb F H) (by rw[<-Ea a b];exact ⟨_,_,_,_,rfl,zl,zm,c.f.2.1,c.f.1⟩)))))
theorem HG (n d:Int)(b:d≠0):mkR n d=(n:Rat)/(d:Rat):=by
 unfold mkR
 have c:(d:Rat)≠0:=by simpa using b
 rcases Nl d 0 with h|h|h
 ·rw[if_pos h,NO]
  have e:((ab d:Nat):Rat) = -(d:Rat):=by
   have:((ab d:Nat):Int) = -d:=by unfold ab;omega
   have a:(((ab d:Nat):Int):Rat)=((-d:Int):Rat):=by rw[this]
   rw[NP,Rat.intCast_neg] at a;exact a
  rw[e];simp;grind
 ·exact absurd h b
 ·rw[if_neg oM,NO]
  have e:((ab d:Nat):Rat)=(d:Rat):=by
   have:((ab d:Nat):Int)=d:=by unfold ab;omega
   have a:(((ab d:Nat):Int):Rat)=((d:Int):Rat):=by rw[this]
   rw[NP] at a;exact a
  rw[e]
theorem EF (a b:Rat)(d:b.num≠0):mkR (a.num*((b.den:Nat):Int)) (((a.den:Nat):Int)*b.num)=a/b:=by
 have ha:=a.den_pos;have e:=b.den_pos;have c:((a.den:Nat):Int)*b.num≠0:=NQ oM d;rw[HG _ _ c];have e1:a=(a.num:Rat)/(a.den:Rat):=by rw[<-NO,NR]
 have e2:b=(b.num:Rat)/(b.den:Rat):=by rw[<-NO,NR]
 have h1:((a.den:Nat):Rat)≠0:=by simp;omega
 have h:((b.den:Nat):Rat)≠0:=by simp;omega
 have i:((b.num:Int):Rat)≠0:=by simpa using d
 have f:a/b=((a.num:Rat)/(a.den:Rat))/((b.num:Rat)/(b.den:Rat)):=by rw[<-e1,<-e2]
 rw[f]
 simp only[Rat.intCast_mul,NP]
 generalize (a.num:Rat)=x at *
 generalize (b.num:Rat)=y at *
 generalize ((a.den:Nat):Rat)=z at *
 generalize ((b.den:Nat):Rat)=t at *
 grind
theorem vC {z:Int}(h0 : -9223372036854775808<=z)(h1:z<9223372036854775808):(lim (ab z)).length<=2:=eh (by unfold ab;omega)
theorem pp (z:Int)(h0 : -9223372036854775808<=z)(h1:z<9223372036854775808)(w:World)(h:Hp)(g:G w h):CR 16 #[iV z] w h (fun v h1=>RQ h1 v (z:Rat)):=by
 have a:=sS g;refine go Tryz.func16 [(0,iV z)] rfl (ax (lA 2 28 cD a (fun u w2 p a=>aG (lL a ac (lC 4 a (rE z oM oM _ _ a.g) ?_)))));rintro _ o l a ⟨d,b,rfl,e,c⟩;replace a:=a.aS c;refine lC 5 a (o4 1 oM _ _ a.g) ?_;rintro _ _ _ a ⟨za,zb,rfl,i,j⟩;replace a:=a.aS j;exact lL a [.v (.agg #[.bool (af z),qS d ((lim (ab z)).length) b,qS za ((lim 1).length) zb])] (lP 0 0 ([.bool (af z),qS d ((lim (ab z)).length) b,qS za ((lim 1).length) zb]) a (fun _ a=>ae a [(0,0,3)] (.agg #[.bool (af z),qS d ((lim (ab z)).length) b,qS za ((lim 1).length) zb]) (by unfold RQ;rw[NE,NF];exact ⟨_,_,_,_,rfl,e,i,a.f.2.1,a.f.1⟩)))
theorem Kh (a:Rat)(d:Option Addr)(c1:Nat)(j:Option Addr)(l:Nat)(x:(lim (ab a.num)).length<=c1)(C:(lim a.den).length<=l)(M:(lim (ab a.num)).length<=300000000)(hm1:(lim a.den).length<=300000000)(b:Rat)(e:Option Addr)(c2:Nat)(i:Option Addr)(o:Nat)(p:(lim (ab b.num)).length<=c2)(D:(lim b.den).length<=o)(hn2:(lim (ab b.num)).length<=300000000)(Z:(lim b.den).length<=300000000)(u:b.num≠0)(w:World)(h:Hp)(g:G w h)(y:S3 d (lim (ab a.num)) h)(B:S3 j (lim a.den) h)(F:S3 e (lim (ab b.num)) h)(z:S3 i (lim b.den) h):CR 137 #[.agg #[.bool (af a.num),.slice d ((lim (ab a.num)).length) c1,.slice j ((lim (a.den)).length) l],.agg #[.bool (af b.num),.slice e ((lim (ab b.num)).length) c2,.slice i ((lim (b.den)).length) o]] w h (fun v h1=>RQ h1 v (a/b)):=by
 have c:=(((((sS g).aS y).aS B).aS F).aS z);have hx1:=iB a.num b.den;have hx2:(lim (ab ((a.den:Int)*b.num))).length<=600000000:=e4 (n8 (a.den:Int) b.num) (by show (lim a.den).length+_<=_;omega);refine go Tryz.func137 [(0,.agg #[.bool (af a.num),qS d ((lim (ab a.num)).length) c1,qS j ((lim (a.den)).length) l]),(1,.agg #[.bool (af b.num),qS e ((lim (ab b.num)).length) c2,qS i ((lim (b.den)).length) o])] rfl (ax (lA 2 28 ([.bool (af a.num),qS d ((lim (ab a.num)).length) c1,qS j ((lim (a.den)).length) l]) c (fun b1 w2 h3 c=>lA 3 28 ([.bool (af b.num),qS e ((lim (ab b.num)).length) c2,qS i ((lim (b.den)).length) o]) c (fun b4 w5 h6 c=>lA 4 28 cD c (fun b7 w8 h9 c=>ah (cR 11 [] mixed c ao ?_))))));refine eV 0 5 (pB b1) (eO 1 6 [(2,0,2)] (.agg #[.bool (af a.num),qS d ((lim (ab a.num)).length) c1]) c (eO 2 7 [(1,0,3)] (.agg #[.bool (af b.num),qS e ((lim (ab b.num)).length) c2,qS i ((lim (b.den)).length) o]) c (eO 5 10 [(2,0,3)] (.agg #[.bool (af a.num),qS d ((lim (ab a.num)).length) c1,qS j ((lim (a.den)).length) l]) c (eV 7 12 (pB b4) (eO 8 13 [(1,0,2)] (.agg #[.bool (af b.num),qS e ((lim (ab b.num)).length) c2]) c (eC 3 8 c (fun _ _ c=>vL b e c2 i o p D oM oM _ _ c.g c.f.2.1 c.f.1) ?_))))));rintro _ _ _ _ _ c ⟨zr,O,rfl,K,zf⟩;replace c:=c.aS zf;refine eC 4 9 c (fun _ _ c=>ip a.num d c1 x oM (b.den:Int) zr O K (show (lim (b.den)).length<=2000000000 by omega) _ _ c.g c.f.q.1 c.f.1) ?_;rintro _ _ _ _ _ c ⟨J,zu,rfl,zg,V⟩;replace c:=c.aS V;refine eC 6 11 c (fun _ _ c=>vL a d c1 j l x C oM oM _ _ c.g c.f.q.2.1 c.f.q.1) ?_;rintro _ _ _ _ _ c ⟨zv,U,rfl,Q,L⟩;replace c:=c.aS L;refine eC 9 14 c (fun _ _ c=>ip (a.den:Int) zv U Q (show (lim (a.den)).length<=2000000000 by omega) b.num e c2 p oM _ _ c.g c.f.1 c.f.q.1) ?_;rintro _ _ _ _ _ c ⟨Y,W,rfl,zl,zm⟩;replace c:=c.aS zm;refine eC 10 15 c (fun _ _ c=>xC (a.num*(b.den:Int)) J zu zg oM ((a.den:Int)*b.num) Y W zl oM (NQ (by have:=a.den_pos;omega) u) _ _ c.g c.f.r.1 c.f.1) ?_;rintro _ _ _ _ _ c ⟨za,zb,H,I,rfl,S,X,zp,zq⟩;replace c:=c.aP zp zq;exact bP c (fun _ _ c=>tP 11 0 0 (gY (mkR (a.num*(b.den:Int)) ((a.den:Int)*b.num)) za zb H I) c (fun _ c=>tN (kX (c.ret [(0,0,3)] (rG (mkR (a.num*(b.den:Int)) ((a.den:Int)*b.num)) za zb H I) (by rw[<-EF a b u];exact ⟨_,_,_,_,rfl,S,X,c.f.2.1,c.f.1⟩)))))
theorem HD {P:Program}{Γ:bU}{o:Oper}{t u:TypeId}{x y:Operand}{k ky:IntKind}{a n:Nat}(d:o.op=.binOp .shr t x y u)(c:ev Γ x=.int k (a:Int))(b:ev Γ y=.int ky (n:Int))(hn:n<=k.bits)(w:World) :
  (execOp (ev Γ) o).run P w=.ok (.value (.int k ((a/2^n:Nat):Int))) w:=by
 have:=Il (P:=P) d c b hn w;rw[show ((a:Int)/2^n)=((a/2^n:Nat):Int) by simp] at this
 exact this
theorem wF {P:Program}{Γ:bU}{o:Oper}{t u:TypeId}{x y:Operand}{ky:IntKind}{a n:Nat}(d:o.op=.binOp .shl t x y u)(c:ev Γ x=.int .u32 (a:Int))(b:ev Γ y=.int ky (n:Int))(hn:n<=32)(hf:a*2^n<4294967296)(w:World) :
  (execOp (ev Γ) o).run P w=.ok (.value (.int .u32 ((a*2^n:Nat):Int))) w:=by
 have:=JG (P:=P) d c b hn w;rw[show ((a:Int)*2^n)=((a*2^n:Nat):Int) by simp,IQ hf] at this
 exact this
theorem vP (a:Nat)(A:Option Addr)(c:Nat)(W:(lim a).length<=c)(H:(lim a).length<=4000000000)(w:World)(h:Hp)(g:G w h)(Y:S3 A (lim a) h):CR 92 #[.slice A ((lim a).length) c] w h (fun v h1=>∃ A,v=.slice A ((nb a+7)/8) ((nb a+7)/8)/\SlO 1 nk 0 h1 A (gf a ((nb a+7)/8))):=by
 have e:=((sS g).aS Y);have hna:=sd a;refine go Tryz.func92 [(0,qS A ((lim a).length) c)] rfl (aa e ac (aG (lL e ac (ar 7 e (pV a A c W H _ _ e.g e.f.1) (fun w1 h2 e=>bh 8 ((nb a:Nat)+7) ((nb a)+7) (lV 9 (nV (((nb a)+7)/8)) ?_ (hr:=aI (dH (t:=3) (u:=3) (x:=.tmp 8) (y:=.const (iV 8)) (k:=.i64) (a:=(((nb a)+7:Nat):Int)) (b:=(8:Int)) kR kR kR oM _) (dE ((nb a)+7) 8 oM))))))));refine lL e ac (aG (lL e ac (lK 11 5 (((nb a)+7)/8:Nat) 1 1 (.int .u8 0) nk 0 e (fun p w4 Z e=>?_))));have D:(As (((nb a)+7)/8:Nat) 0).length=(((nb a)+7)/8:Nat):=by simp
 refine lL e ac (ah (aa e ac (aY ?_)));refine bH _ (CG.loop (fun F Γ U=>∃ (i:Nat) (l:List Nat) (h_:Hp),F=((nb a+7)/8)-i/\Γ=[(0,qS A ((lim a).length) c),(2,sZ),(3,nV (((nb a)+7)/8)),(4,qS (sB p) (((nb a)+7)/8:Nat) (((nb a)+7)/8:Nat)),(5,nV i)]/\SS w h U h_ [⟨p,5,(l).flatMap nk⟩] [] [S3 A (lim a)]/\i<=((nb a+7)/8)/\l.length=((nb a+7)/8)/\(∀ j,j<i->l.getD (((nb a+7)/8)-1-j) 0=a/256^j%256)) _ ⟨0,As (((nb a)+7)/8:Nat) 0,Z,rfl,rfl,e.to _ _,MG _,D,(fun j I=>absurd I oM)⟩ ?_);rintro _ _ w7 ⟨i,l,X,Q,rfl,e,hi,z,K⟩;have M:=(Ld.lim a).get (i/4);refine cQ (aa e aD ?_);cases za:(decide ((i:Int)<((((nb a)+7)/8:Nat):Int)))
 .
  have zb:=oF za;refine lB 14 za (ag (CG.exit ?_))
  show CG _ _ _ _ _ _ _ _
  refine aa e aD (lN (kX ?_));have S:i=((nb a+7)/8):=by omega
  have C:l=gf a ((nb a+7)/8):=sq z (fun j I=>K j oM);rw[C] at e
  obtain ⟨_,e,B,J,L⟩:=e.pub 0;replace e:=(e.to [] []).aS (SlO.of_flat (sz:=1) (f:=nk) (d:=0) (b:=p) (o:=0) (l:=gf a ((nb a+7)/8)) (fun _=>rfl) B);exact e.ret [] (qS (sB p) (((nb a)+7)/8:Nat) (((nb a)+7)/8:Nat)) (⟨sB p,rfl,e.f.1⟩)
 have zb:=oT za;refine lB 14 za (ak (cK (cQ (kZ (kQ (lL e aD (bh 19 ((((nb a)+7)/8:Nat)-1) ((((nb a)+7)/8:Nat)-1) ?_)))))));refine lL e ac (bh 21 (((((nb a)+7)/8:Nat)-1:Nat)-(i:Nat)) (((((nb a)+7)/8:Nat)-1:Nat)-i) ?_);refine lL e aD (lV 24 (nV (i/4)) ?_ (hr:=aI (dH (t:=3) (u:=3) (x:=.tmp 23) (y:=.const (iV 4)) (k:=.i64) (a:=(i:Int)) (b:=(4:Int)) kR kR kR oM _) (dE i 4 oM)));refine lX 25 A ((lim a).length) c 1 (i/4:Nat) (i/4) ((e.f.1).ok oM) (lH 26 (mW ((lim a).getD (i/4) 0)) e ((e.f.1).el (i/4) oM) (lL e ac (lV 28 (nV (i%4)) ?_ (hr:=aI (ft (t:=3) (u:=3) (x:=.tmp 27) (y:=.const (iV 4)) (k:=.i64) (a:=(i:Int)) (b:=(4:Int)) kR kR kR oM _) (dk i 4)))));refine bh 29 (8*(i%4:Nat)) (8*(i%4)) (lV 30 (mV (8*(i%4))) ?_ (hr:=rU (((8*(i%4):Nat):Int)) kR (a8 oM oM)));refine lV 31 (mW ((lim a).getD (i/4) 0/2^(8*(i%4)))) ?_ (hr:=HD (t:=141) (u:=144) (x:=.tmp 26) (y:=.tmp 30) (k:=.u32) (ky:=.u64) (a:=(lim a).getD (i/4) 0) (n:=8*(i%4)) kR kR kR (show 8*(i%4)<=32 by omega) _);refine lV 32 (.int .u8 ((lim a).getD (i/4) 0/2^(8*(i%4))%256:Nat)) ?_ (hr:=aI (n:=IntKind.wrap .u8 (((lim a).getD (i/4) 0/2^(8*(i%4)):Nat):Int)) kR (CQ _));refine lX 33 (sB p) (((nb a)+7)/8:Nat) (((nb a)+7)/8:Nat) 1 (((((nb a)+7)/8:Nat)-1:Nat)-i:Nat) (((((nb a)+7)/8:Nat)-1:Nat)-i:Nat) rfl (lW 0 l nk 1 (((((nb a)+7)/8:Nat)-1:Nat)-i:Nat) ((lim a).getD (i/4) 0/2^(8*(i%4))%256:Nat) e oM (fun _ e=>?_));have O:((l).set (((((nb a)+7)/8:Nat)-1:Nat)-i:Nat) ((lim a).getD (i/4) 0/2^(8*(i%4))%256:Nat)).length=(((nb a)+7)/8:Nat):=by rw[LB];exact z
 replace e:=e.to [⟨p,5,((l).set (((((nb a)+7)/8:Nat)-1:Nat)-i:Nat) ((lim a).getD (i/4) 0/2^(8*(i%4))%256:Nat)).flatMap nk⟩] [];refine lN (kQ (lL e ac (bh 16 ((i:Nat)+1) (i+1) ?_)));refine lL e ac (lD ?_);intro a_ V;refine ⟨_,_,?_,⟨i+1,(l).set (((((nb a)+7)/8:Nat)-1:Nat)-i:Nat) ((lim a).getD (i/4) 0/2^(8*(i%4))%256:Nat),X,rfl,rfl,e.to _ _,oM,O,(ik z oM K (BA a i))⟩,V.to _ kR⟩
 omega
theorem v7 {n m:Nat}(h:n<256^m):∀ j,j<(m+3)/4->(As ((m+3)/4) 0).getD j 0=fN n (m-0) j:=fun j a=>by
 rw[Nat.sub_zero,B3 h];simp[a]
theorem vK {l:List Nat}{n m i x:Nat}(hi:i<m)(c:l.length=(m+3)/4)(hv:∀ j,j<(m+3)/4->l.getD j 0=fN n (m-i) j)(a:x=fN n (m-1-i) ((m-1-i)/4)) :
  ∀ j,j<(m+3)/4->(l.set ((m-1-i)/4) x).getD j 0=fN n (m-(i+1)) j:=by
 intro j b;rw[show m-(i+1)=m-1-i by omega]
 by_cases e:j=(m-1-i)/4
 ·subst e
  have:(m-1-i)/4<l.length:=by omega
  simp[this,a]
 ·rw[nw,if_neg e,show m-1-i+1=m-i by omega,<-hv j b]
  simp only[LH]
  rw[u9 (Ne.symm e)]
theorem tJ {n k:Nat}:fN n (k+1) (k/4) ||| (n/256^k%256)*2^(8*(k%4))=fN n k (k/4):=by rw[nw n k (k/4),if_pos rfl]
theorem nK {b k:Nat}(a:b<256):b*2^(8*(k%4))<4294967296:=by
 have:k%4=0\/k%4=1\/k%4=2\/k%4=3:=by omega
 rcases this with e|e|e|e<;>rw[e]<;>omega
theorem B0 {l:List Nat}{n m:Nat}(hn:n<256^m)(b:l.length=(m+3)/4)(hv:∀ j,j<(m+3)/4->l.getD j 0=fN n (m-m) j):ai 4294967296 l=n/\Ld l:=by
 constructor
 ·rw[<-kC]
  refine iH l n (fun j a=>by rw[hv j oM,Nat.sub_self,vX]) ?_;refine Nat.lt_of_lt_of_le hn ?_;rw[b,show (256:Nat)=2^8 by rfl,show (4294967296:Nat)=2^32 by rfl,<-LY,<-LY];exact Nat.pow_le_pow_right oM oM
 ·intro x c
  obtain ⟨j,a,rfl⟩:=List.mem_iff_getElem.1 c;have:=hv j oM;have e:l[j]=l.getD j 0:=by simp[a]
  rw[e,this];exact pi _ _ _
theorem B2 (n m:Nat)(A:Option Addr)(p:Nat)(hc:m<=p)(hm:m<=1099511627776)(hn:n<256^m)(w:World)(h:Hp)(g:G w h)(hA:SlO 1 nk 0 h A (gf n m)):CR 115 #[.slice A m p] w h (fun v h1=>RN h1 v n):=by
 have e:=((sS g).aS hA);have X:=jL n m;refine go Tryz.func115 [(0,qS A m p)] rfl (aa e ac (aG (lL e [.c,.v (nV m)] (bh 8 ((m:Nat)+3) (m+3) ?_))));refine lV 9 (nV ((m+3)/4)) ?_ (hr:=aI (dH (t:=3) (u:=3) (x:=.tmp 8) (y:=.const (iV 4)) (k:=.i64) (a:=((m+3:Nat):Int)) (b:=(4:Int)) kR kR kR oM _) (dE (m+3) 4 oM));refine lK 10 141 ((m+3)/4) 1 4 (uW 0) az 0 e (fun C w2 Y e=>?_);have L:(As ((m+3)/4) 0).length=((m+3)/4):=by simp
 refine lL e ac (ah (aa e ac (aY ?_)));refine bH _ (CG.loop (fun S Γ W=>∃ (i:Nat) (l:List Nat) (O:Hp),S=m-i/\Γ=[(0,qS A m p),(2,sZ),(3,qS (sB C) ((m+3)/4) ((m+3)/4)),(4,nV i)]/\SS w h W O [⟨C,141,(l).flatMap az⟩] [] [fun O=>SlO 1 nk 0 O A (gf n m)]/\i<=m/\l.length=(m+3)/4/\(∀ j,j<(m+3)/4->l.getD j 0=fN n (m-i) j)) _ ⟨0,As ((m+3)/4) 0,Y,rfl,rfl,e.to _ _,MG _,L,(v7 hn)⟩ ?_);rintro _ _ w5 ⟨i,l,h6,hm7,rfl,e,hi,B,hv⟩;refine cQ (aa e [.c,.c,.v (nV m)] ?_);cases D:(decide ((i:Int)<(m:Int)))
 .
  have J:=oF D;refine lB 14 D (ag (CG.exit ?_))
  show CG _ _ _ _ _ _ _ _
  refine aa e ac ?_;have Q:i=m:=by omega
  rw[Q] at hv
  obtain ⟨M,K⟩:=B0 hn B hv;obtain ⟨h9,e,H,U,V⟩:=e.pub 0;replace e:=(e.to [] []).aS (SlO.of_flat (sz:=1) (f:=az) (d:=0) (b:=C) (o:=0) (l:=l) (fun _=>rfl) H);exact ar 43 e (jj (sB C) ((m+3)/4) l ((m+3)/4) B oM oM _ _ e.g e.f.1) (fun _ _ e=>lL e ac (ae e [] (qS (sB C) (tl l ((m+3)/4)) ((m+3)/4)) (RN.trim K M B oM e.f.1)))
 have J:=oT D;refine lB 14 D (ak (cK (cQ (kZ (aa e [.c,.v (nV m)] (bh 19 ((m:Nat)-1) (m-1) ?_))))));refine lL e ac (bh 21 ((m-1:Nat)-(i:Nat)) ((m-1)-i) ?_);refine lL e ac (lN (cR 19 [] mixed e ao ?_));refine eV 0 22 (qS (sB C) ((m+3)/4) ((m+3)/4)) (eV 1 23 (nV ((m-1)-i)) (eV 2 24 (nV (((m-1)-i)/4)) ?_ (hv:=fun _=>aI (dH (t:=3) (u:=3) (x:=.tmp 23) (y:=.const (iV 4)) (k:=.i64) (a:=(((m-1)-i:Nat):Int)) (b:=(4:Int)) kR kR kR oM _) (dE ((m-1)-i) 4 oM))));refine eV 3 25 (qS (sB C) ((m+3)/4) ((m+3)/4)) (eV 4 26 (nV ((m-1)-i)) (eV 5 27 (nV (((m-1)-i)/4)) ?_ (hv:=fun _=>aI (dH (t:=3) (u:=3) (x:=.tmp 26) (y:=.const (iV 4)) (k:=.i64) (a:=(((m-1)-i:Nat):Int)) (b:=(4:Int)) kR kR kR oM _) (dE ((m-1)-i) 4 oM))));refine eX 6 28 (sB C) ((m+3)/4) ((m+3)/4) 1 (((m-1)-i)/4:Nat) (((m-1)-i)/4:Nat) rfl (eQ 7 29 0 l az 1 0 (((m-1)-i)/4:Nat) (mW ((l).getD (((m-1)-i)/4:Nat) 0)) e oM (eV 8 30 (qS A m p) (eV 9 31 (nV i) (eX 10 32 A m p 1 (i:Nat) i ((e.f.1).ok oM) ?_))));have z:=hv ((m-1-i)/4) oM;have F:l.getD ((m-1-i)/4) 0 ||| (n/256^(m-1-i)%256)*2^(8*((m-1-i)%4))=fN n (m-1-i) ((m-1-i)/4):=by rw[z,show m-i=m-1-i+1 by omega];exact tJ
 have I:l.getD ((m-1-i)/4) 0<4294967296:=by rw[z];exact pi _ _ _
 have z:=hv ((m-1-i)/4) oM;have F:l.getD ((m-1-i)/4) 0 ||| (n/256^(m-1-i)%256)*2^(8*((m-1-i)%4))=fN n (m-1-i) ((m-1-i)/4):=by rw[z,show m-i=m-1-i+1 by omega];exact tJ
 have I:l.getD ((m-1-i)/4) 0<4294967296:=by rw[z];exact pi _ _ _
 refine vy 11 33 (.int .u8 ((gf n m).getD i 0:Nat)) e ((e.f.1).el i oM) (by rw[i7 n m _ oM]) (eV 12 34 (mW (n/256^(m-1-i)%256)) ?_ (hv:=fun _=>rT (((n/256^(m-1-i)%256:Nat):Int)) kR (oR oM oM)));refine eV 13 35 (nV ((m-1)-i)) (eV 14 36 (nV (((m-1)-i)%4)) ?_ (hv:=fun _=>aI (ft (t:=3) (u:=3) (x:=.tmp 35) (y:=.const (iV 4)) (k:=.i64) (a:=(((m-1)-i:Nat):Int)) (b:=(4:Int)) kR kR kR oM _) (dk ((m-1)-i) 4)));refine jX 15 37 (8*(((m-1)-i)%4:Nat)) (8*(((m-1)-i)%4:Nat)) (eV 16 38 (mV (8*(((m-1)-i)%4:Nat))) ?_ (hv:=fun _=>rU (((8*(((m-1)-i)%4:Nat):Nat):Int)) kR (a8 oM oM)));refine eV 17 39 (mW ((n/256^(m-1-i)%256)*2^(8*((m-1-i)%4)))) ?_ (hv:=fun _=>wF (t:=141) (u:=144) (x:=.tmp 34) (y:=.tmp 38) (ky:=.u64) (a:=n/256^(m-1-i)%256) (n:=8*((m-1-i)%4)) kR kR kR oM (nK oM) _);refine eV 18 40 (mW (fN n (m-1-i) ((m-1-i)/4))) ?_ (hv:=fun _=>aI (FL (t:=141) (u:=141) (x:=.tmp 29) (y:=.tmp 39) (a:=l.getD ((m-1-i)/4) 0) (b:=(n/256^(m-1-i)%256)*2^(8*((m-1-i)%4))) kR kR kR I (nK oM) _) (congrArg Int.ofNat F));refine bP e (fun _ zb e=>tX 19 41 (sB C) ((m+3)/4) ((m+3)/4) 1 (((m-1)-i)/4:Nat) (((m-1)-i)/4:Nat) rfl (tW 20 0 l az 1 (((m-1)-i)/4:Nat) (fN n (m-1-i) ((m-1-i)/4):Nat) e oM (fun _ e=>?_)));have za:((l).set (((m-1)-i)/4:Nat) (fN n (m-1-i) ((m-1-i)/4):Nat)).length=((m+3)/4):=by rw[LB];exact B
 replace e:=e.to [⟨C,141,((l).set (((m-1)-i)/4:Nat) (fN n (m-1-i) ((m-1-i)/4):Nat)).flatMap az⟩] [];refine tN (kQ (lL e ac (bh 16 ((i:Nat)+1) (i+1) ?_)));refine lL e ac (lD ?_);intro a_ Z;refine ⟨_,_,?_,⟨i+1,(l).set (((m-1)-i)/4:Nat) (fN n (m-1-i) ((m-1-i)/4):Nat),zb,rfl,rfl,e.to _ _,oM,za,(vK oM B hv rfl)⟩,Z.to _ kR⟩
 omega
def cI (q:Rat):Rat:=if q.num<0 then -q else q
theorem qG (q:Rat):(cI q).num=((ab q.num:Nat):Int):=by
 unfold cI ab;split
 ·rw[NG];omega
 ·omega
theorem Br (q:Rat):(cI q).den=q.den:=by
 unfold cI;split
 ·rw[NH]
 ·rfl
theorem LQ.ln {q:Rat}(h:LQ 100000000 q):(lim (ab q.num)).length<=300000000:=e4 (tA _) (by have:=h.1;omega)
theorem LQ.ld {q:Rat}(h:LQ 100000000 q):(lim q.den).length<=300000000:=e4 (tA _) (by have:=h.2;omega)
theorem nl {k:Nat}{q:Rat}(h:LQ k q)(hk:k<=100000000:=by omega):(lim (ab q.num)).length<=300000000:=LQ.ln (h.mono hk)
theorem nD {k:Nat}{q:Rat}(h:LQ k q)(hk:k<=100000000:=by omega):(lim q.den).length<=300000000:=LQ.ld (h.mono hk)
theorem LQ.abs {k:Nat}{q:Rat}(h:LQ k q):LQ k (cI q):=⟨by rw[qG];exact h.1,by rw[Br];exact h.2⟩
theorem LQ.sub {k l:Nat}{a b:Rat}(ha:LQ k a)(c:LQ l b):LQ (k+l+1) (a-b):=by rw[NS];exact ha.add c.neg
theorem LQ.inv {k:Nat}{q:Rat}(h:LQ k q):LQ k q⁻¹:=by
 by_cases hz:q.num=0
 ·have:q=0:=by rw[<-NT];exact hz
  subst this;rw[Rat.inv_zero];exact h
 ·obtain ⟨h1,a⟩:=uE q hz
  exact ⟨by rw[h1,fi];exact h.2,by rw[a];exact h.1⟩
theorem LQ.div {k l:Nat}{a b:Rat}(ha:LQ k a)(c:LQ l b):LQ (k+l) (a/b):=by rw[Rat.div_def];exact ha.mul c.inv
theorem LQ.int {z:Int}(h0 : -9223372036854775808<=z)(h1:z<=9223372036854775807):LQ 1 (z:Rat):=⟨by rw[NE];exact eD.2 (by unfold ab;omega),by rw[NF];exact eD.2 oM⟩
theorem LQ.lit {z:Int}(h : -9223372036854775808<=z/\z<=9223372036854775807):LQ 1 (z:Rat):=LQ.int h.1 h.2
def fc (a b:List Rat):Nat->Rat
  | 0=>0
  | k+1=>fc a b k+a.getD k 0*b.getD k 0
theorem I9 {h:Hp}{v:Value}{a:Rat}(hv:RP h v (-a.num) a.den):RQ h v (-a):=by unfold RQ;rw[NG,NH];exact hv
theorem Ka (a:Rat)(e:Option Addr)(c1:Nat)(c:Option Addr)(d:Nat)(p:(lim (ab a.num)).length<=c1)(l:(lim a.den).length<=d)(z:(lim (ab a.num)).length<=300000000)(B:(lim a.den).length<=300000000)(w:World)(h:Hp)(g:G w h)(i:S3 e (lim (ab a.num)) h)(j:S3 c (lim a.den) h):CR 161 #[rG a e c1 c d] w h (fun v h1=>RQ h1 v (-a)):=by
 have b:=(((sS g).aS i).aS j);refine go Tryz.func161 [(0,rG a e c1 c d)] rfl (ax (lA 1 28 (gY a e c1 c d) b (fun y w2 D b=>lA 2 28 cD b (fun H F C b=>ah (cR 6 [] mixed b ao ?_)))));refine eV 0 3 (pB y) (eO 1 4 [(1,0,2)] (.agg #[.bool (af a.num),qS e ((lim (ab a.num)).length) c1]) b (eV 3 6 (qP y 2) (eO 4 7 [(1,2,1)] (qS c ((lim a.den).length) d) b (eC 2 5 b (fun _ _ b=>td a.num e c1 p oM _ _ b.g b.f.2.1) ?_))));rintro _ _ _ _ _ b ⟨x,o,rfl,u,za⟩;replace b:=b.aS za;exact eV 5 8 (.agg #[.bool (af (-a.num)),qS x ((lim (ab (-a.num))).length) o,qS c ((lim a.den).length) d]) (bP b (fun _ _ b=>tP 6 0 0 ([.bool (af (-a.num)),qS x ((lim (ab (-a.num))).length) o,qS c ((lim a.den).length) d]) b (fun _ b=>tN (kX (b.ret [(0,0,3)] (.agg #[.bool (af (-a.num)),qS x ((lim (ab (-a.num))).length) o,qS c ((lim a.den).length) d]) (I9 ⟨_,_,_,_,rfl,u,l,b.f.1,b.f.2.1⟩))))))
theorem Kj (a:Rat)(i:Option Addr)(c1:Nat)(e:Option Addr)(l:Nat)(I:(lim (ab a.num)).length<=c1)(D:(lim a.den).length<=l)(z:(lim (ab a.num)).length<=300000000)(J:(lim a.den).length<=300000000)(b:Rat)(j:Option Addr)(c2:Nat)(d:Option Addr)(o:Nat)(C:(lim (ab b.num)).length<=c2)(F:(lim b.den).length<=o)(u:(lim (ab b.num)).length<=300000000)(p:(lim b.den).length<=300000000)(w:World)(h:Hp)(g:G w h)(x:S3 i (lim (ab a.num)) h)(B:S3 e (lim a.den) h)(H:S3 j (lim (ab b.num)) h)(y:S3 d (lim b.den) h):CR 136 #[rG a i c1 e l,rG b j c2 d o] w h (fun v h1=>RQ h1 v (a-b)):=by
 have c:=(((((sS g).aS x).aS B).aS H).aS y);refine go Tryz.func136 [(0,rG a i c1 e l),(1,rG b j c2 d o)] rfl (ax (lA 2 28 (gY a i c1 e l) c (fun b1 w2 h3 c=>lA 3 28 (gY b j c2 d o) c (fun b4 w5 h6 c=>lA 4 28 cD c (fun b7 w8 h9 c=>ah (cR 4 [] mixed c ao ?_))))));refine eO 0 5 [(2,0,3)] (rG a i c1 e l) c (eO 1 6 [(1,0,3)] (rG b j c2 d o) c (eC 2 7 c (fun _ _ c=>Ka b j c2 d o C F u p _ _ c.g c.f.2.1 c.f.1) ?_));rintro _ _ _ _ _ c ⟨S,V,X,zq,rfl,M,zf,W,U⟩;replace c:=c.aP W U;refine eC 3 8 c (fun _ _ c=>D7 a i c1 e l I D z J (-b) S V X zq M zf (by rw[NG];unfold ab;rw[NK];exact u) (by rw[NH];exact p) _ _ c.g c.f.q.2.1 c.f.q.1 c.f.2.1 c.f.1) ?_;rintro _ _ _ _ _ c ⟨za,zb,K,L,rfl,Q,O,Z,Y⟩;replace c:=c.aP Z Y;exact bP c (fun _ _ c=>tP 4 0 0 (gY (a+(-b)) za zb K L) c (fun _ c=>tN (kX (c.ret [(0,0,3)] (rG (a+(-b)) za zb K L) (by rw[NS];exact ⟨_,_,_,_,rfl,Q,O,c.f.2.1,c.f.1⟩)))))
theorem l5 (a:Nat)(A:Option Addr)(c:Nat)(l:(lim a).length<=c)(b:Nat)(D:Option Addr)(d:Nat)(i:(lim b).length<=d)(e:(lim a).length<=3000000000)(x:(lim b).length<=1)(u:0<b)(w:World)(h:Hp)(g:G w h)(p:S3 A (lim a) h)(f:S3 D (lim b) h):CR 140 #[.slice A (lim a).length c,.slice D (lim b).length d] w h (fun v h1=>∃ o j,v=.tuple #[o,j]/\RN h1 o (a/b)/\RN h1 j (a%b)):=by
 have y:=bR.2 u
 rcases ea a b with h1|h1
 ·exact nU a A c l b D d i e oM h1 w h g p f
 ·exact ng a A c l b D d i e oM h1 oM w h g p f
theorem Bf (a:Nat)(A:Option Addr)(c:Nat)(hc:(lim a).length<=c)(b:Nat)(D:Option Addr)(d:Nat)(S:(lim b).length<=d)(H:(lim a).length<=3000000000)(B:(lim b).length<=1)(w:World)(h:Hp)(g:G w h)(hA:S3 A (lim a) h)(M:S3 D (lim b) h):CR 139 #[.slice A ((lim a).length) c,.slice D ((lim b).length) d] w h (fun v h1=>RN h1 v (MX a b)):=by
 have e:=(((sS g).aS hA).aS M);refine go Tryz.func139 [(0,qS A ((lim a).length) c),(1,qS D ((lim b).length) d)] rfl (aa e ac (ah (kZ ?_)));replace e:=e.aS e.f.1;replace e:=e.aS e.f.r.1;refine bH _ (CG.loop (fun F Γ V=>∃ (x:Nat) (j:Option Addr) (c1:Nat) (y:Nat) (p:Option Addr) (c2:Nat) (z:Hp),F=y/\Γ=[(4,sZ),(0,qS j ((lim x).length) c1),(1,qS p ((lim y).length) c2)]/\SS w h V z [] [] [S3 j (lim x),S3 p (lim y),S3 D (lim b),S3 A (lim a)]/\(lim x).length<=c1/\(lim y).length<=c2/\(lim x).length<=3000000000/\(lim y).length<=1/\MX x y=MX a b) _ ⟨a,A,c,b,D,d,h,rfl,rfl,e.to _ _,hc,S,H,B,rfl⟩ ?_);rintro _ _ w1 ⟨x,j,c1,y,p,c2,h2,U,rfl,e,u,l,Y,hl2,K⟩;refine cQ (aa e [.c,.v (nV ((lim y).length))] ?_);cases i:(decide ((0:Int)<(((lim y).length:Nat):Int)))
 .
  have o:=oF i;refine lB 9 i (ag (CG.exit ?_))
  show CG _ _ _ _ _ _ _ _
  refine aa e aD (lN (kX ?_));have I:y=0:=Nat.eq_zero_of_not_pos (fun z=>by have:=bR.2 z;omega);exact e.ret [] (qS j ((lim x).length) c1) (by rw[<-K,I,Nh];exact ⟨j,c1,rfl,u,e.f.1⟩)
 have o:=oT i;refine lB 9 i (ak (cK (kZ (aa e aD (lC 13 e (l5 x j c1 u y p c2 l oM oM (bR.1 oM) _ _ e.g e.f.1 e.f.2.1) ?_)))));rintro _ w5 W e ⟨_,_,rfl,⟨X,cq,rfl,Q,hq⟩,⟨L,J,rfl,C,hr⟩⟩;replace e:=e.aS hr;have hmd:=LX x (bR.1 (show 0<(lim y).length by omega));have O:=dG (show x%y<=y by omega);refine lL e [.c,.v (qS X (lim (x/y)).length cq),.v (qS L ((lim (x%y)).length) J),.c,.c] (aG (lL e aD (lN (kQ (lL e aD (lD ?_))))));intro a_ Z;replace e:=((e.tl.tl.tl.aS e.f.1).aS e.f.r.1);refine ⟨_,_,?_,⟨y,p,c2,x%y,L,J,W,rfl,rfl,e.to _ _,l,C,oM,oM,(by rw[jp];exact K)⟩,Z.to _ kR⟩
 omega
theorem vM (a:Nat)(A:Option Addr)(c:Nat)(l:(lim a).length<=c)(b:Nat)(D:Option Addr)(d:Nat)(j:(lim b).length<=d)(q:Nat)(hq:q=MX a b)(f:(lim a).length<=3000000000)(e:(lim b).length<=1)(w:World)(h:Hp)(g:G w h)(o:S3 A (lim a) h)(i:S3 D (lim b) h):CR 139 #[.slice A (lim a).length c,.slice D (lim b).length d] w h (fun v h1=>RN h1 v q):=by
 subst hq;exact Bf a A c l b D d j f e w h g o i
theorem sa {z:Int}(h0 : -4294967296<z)(h1:z<4294967296):(lim (ab z)).length<=1:=eh (by unfold ab;omega)
theorem Gu (x:Int)(A:Option Addr)(c:Nat)(L:(lim (ab x)).length<=c)(X:(lim (ab x)).length<=2000000000)(y:Int)(D:Option Addr)(d:Nat)(H:(lim (ab y)).length<=d)(C:(lim (ab y)).length<=1)(B:y≠0)(w:World)(h:Hp)(g:G w h)(hA:S3 A (lim (ab x)) h)(O:S3 D (lim (ab y)) h):CR 106 #[.agg #[.bool (af x),.slice A ((lim (ab x)).length) c],.agg #[.bool (af y),.slice D ((lim (ab y)).length) d]] w h (fun v h1=>RQ h1 v (mkR x y)):=by
 have a:=(((sS g).aS hA).aS O);obtain ⟨j,i,hq0⟩:=nW x y B;obtain ⟨q,hq⟩:∃ q,q=MX (ab x) (ab y):=⟨_,rfl⟩;rw[<-hq] at j i hq0
 have U:(lim q).length<=1:=gE (by rw[hq];exact NI _ (by unfold ab;omega)) C;refine go Tryz.func106 [(0,.agg #[.bool (af x),qS A ((lim (ab x)).length) c]),(1,.agg #[.bool (af y),qS D ((lim (ab y)).length) d])] rfl (ax (lA 2 26 ([.bool (af x),qS A ((lim (ab x)).length) c]) a (fun z w2 h3 a=>lA 3 26 ([.bool (af y),qS D ((lim (ab y)).length) d]) a (fun u w5 h6 a=>lA 4 28 cD a (fun b7 w8 h9 a=>aG (lL a [.v (qP z 1),.o (qS A ((lim (ab x)).length) c) 2 1 1,.v (qP u 1),.o (qS D ((lim (ab y)).length) d) 1 1 1] (lC 14 a (vM (ab x) A c L (ab y) D d H q hq oM oM _ _ a.g a.f.2.1 a.f.1) ?_)))))));rintro _ _ _ a ⟨M,K,rfl,F,Q⟩;replace a:=a.aS Q;refine lL a ac (aG (lL a [.v (qP z 1),.o (qS A ((lim (ab x)).length) c) 2 1 1,.c] (lC 19 a (l5 (ab x) A c L q M K F oM oM hq0 _ _ a.g a.f.r.1 a.f.1) ?_)));rintro _ _ _ a ⟨_,e,rfl,⟨J,I,rfl,Z,Y⟩,-⟩;replace a:=a.aS Y;refine lL a [.c,.v (qS J ((lim ((ab x)/q)).length) I),.v e,.c,.c] (aG (lL a [.v (qP u 1),.o (qS D ((lim (ab y)).length) d) 1 1 1,.c] (lC 26 a (l5 (ab y) D d H q M K F oM oM hq0 _ _ a.g a.f.r.1 a.f.2.1) ?_)));rintro _ _ _ a ⟨_,b,rfl,⟨za,zb,rfl,S,V⟩,-⟩;replace a:=a.aS V;refine lL a [.c,.v (qS za ((lim ((ab y)/q)).length) zb),.v b,.c,.c] (aG (lL a [.v (pB z),.o (.bool (af x)) 2 0 1,.v (pB u),.o (.bool (af y)) 1 0 1,.v (.bool ((af x) != (af y))),.c] (lC 35 a (rI ((af x) != (af y)) ((ab x)/q) J I Z _ _ a.g a.f.2.1) ?_)));rintro _ _ _ a ⟨p,l,rfl,W,zq⟩;replace a:=a.aS zq;exact lL a [.c,.v (.agg #[.bool (af (bu ((af x) != (af y)) ((ab x)/q))),qS p ((lim (ab (bu ((af x) != (af y)) ((ab x)/q)))).length) l,qS za ((lim ((ab y)/q)).length) zb])] (lP 0 0 ([.bool (af (bu ((af x) != (af y)) ((ab x)/q))),qS p ((lim (ab (bu ((af x) != (af y)) ((ab x)/q)))).length) l,qS za ((lim ((ab y)/q)).length) zb]) a (fun _ a=>ae a [(0,0,3)] (.agg #[.bool (af (bu ((af x) != (af y)) ((ab x)/q))),qS p ((lim (ab (bu ((af x) != (af y)) ((ab x)/q)))).length) l,qS za ((lim ((ab y)/q)).length) zb]) (by unfold RQ;rw[j,i];exact ⟨_,_,_,_,rfl,W,S,a.f.1,a.f.2.1⟩)))
theorem BU (x y:Int)(d:y≠0)(h0 : -9223372036854775808<=x)(h1:x<9223372036854775808)(u : -4294967296<y)(j:y<4294967296)(w:World)(h:Hp)(g:G w h):CR 67 #[iV x,iV y] w h (fun v h1=>RQ h1 v (mkR x y)):=by
 have a:=sS g;have B:=vC h0 h1;have K:=sa u j;refine go Tryz.func67 [(0,iV x),(1,iV y)] rfl (ax (lA 4 28 cD a (fun O w2 j a=>aG (lL a ac (lC 6 a (rE x oM oM _ _ a.g) ?_)))));rintro _ M L a ⟨F,l,rfl,c,b⟩;replace a:=a.aS b;refine lL a ac (lC 8 a (rE y oM oM _ _ a.g) ?_);rintro _ _ _ a ⟨I,H,rfl,o,J⟩;replace a:=a.aS J;refine lC 9 a (Gu x F l c oM y I H o oM d _ _ a.g a.f.2.1 a.f.1) ?_;rintro _ _ _ a ⟨za,zb,e,i,rfl,D,C,z,p⟩;replace a:=a.aP z p;exact lP 0 0 (gY (mkR x y) za zb e i) a (fun _ a=>ae a [(0,0,3)] (rG (mkR x y) za zb e i) (by skip;exact ⟨_,_,_,_,rfl,D,C,a.f.2.1,a.f.1⟩))
theorem IR (a:Nat)(A:Option Addr)(c:Nat)(j:(lim a).length<=c)(z:(lim a).length<=300000000)(w:World)(h:Hp)(g:G w h)(l:S3 A (lim a) h):CV 51 #[.slice A ((lim a).length) c] w h (nv a):=by
 have b:=((sS g).aS l);have e:=sd a;refine go Tryz.func51 [(0,qS A ((lim a).length) c)] rfl (ax (lA 2 40 ([uV 0,eS]) b (fun y w2 u b=>aG (lL b ac (lC 4 b (vP a A c j oM _ _ b.g b.f.1) ?_)))));rintro _ x B b ⟨i,rfl,d⟩;replace b:=b.aS d;exact ar 5 b (BW a ((nb a+7)/8) i ((nb a+7)/8) (nR _) oM (wY a) _ _ b.g b.f.1) (fun p o b=>lP 0 0 (nc a) b (fun _ b=>ae b [(0,0,2)] (nv a) rfl))
theorem KE (z:Int)(A:Option Addr)(c:Nat)(e:(lim (ab z)).length<=c)(i:(lim (ab z)).length<=300000000)(w:World)(h:Hp)(g:G w h)(j:S3 A (lim (ab z)) h):CV 49 #[.agg #[.bool (af z),.slice A ((lim (ab z)).length) c]] w h (iv z):=by
 have a:=((sS g).aS j);have d:=Dt (ab z);refine go Tryz.func49 [(0,.agg #[.bool (af z),qS A ((lim (ab z)).length) c])] rfl (ax (lA 1 26 ([.bool (af z),qS A ((lim (ab z)).length) c]) a (fun b w2 u a=>lA 2 42 ([qF,uV 0,eS]) a (fun y x p a=>ah (cR 6 [] mixed a ao ?_)))));exact eV 0 3 (pB b) (eO 1 4 [(1,0,1)] (.bool (af z)) a (eV 2 5 (qP b 1) (eO 3 6 [(1,1,1)] (qS A ((lim (ab z)).length) c) a (au 4 7 a (fun _ _ a=>IR (ab z) A c e (by first|exact i|exact LQ.ld hq|omega) _ _ a.g a.f.1) (fun o B a=>au 5 8 a (fun _ _ a=>gh (af z) (ab z) oM _ _ a.g) (fun l _ a=>bP a (fun _ _ a=>tP 6 0 0 (ic (bu (af z) (ab z))) a (fun _ a=>tN (kX (a.ret [(0,0,3)] (iv (bu (af z) (ab z))) (congrArg iv (mZ z))))))))))))
theorem xU (q:Rat):mkR q.num ((q.den:Nat):Int)=q:=by
 unfold mkR;rw[if_neg oM];show mkRat q.num q.den=q;rw[NR]
theorem Lg (q:Rat)(c:Option Addr)(c1:Nat)(b:Option Addr)(d:Nat)(p:(lim (ab q.num)).length<=c1)(j:(lim q.den).length<=d)(hq:LQ 100000000 q)(w:World)(h:Hp)(g:G w h)(e:S3 c (lim (ab q.num)) h)(i:S3 b (lim q.den) h)(x:Tab h):CV 25 #[rG q c c1 b d] w h (qv q):=by
 have a:=((((sS g).aS e).aS i).aB x);refine go Tryz.func25 [(0,rG q c c1 b d)] rfl (ax (lA 1 28 (gY q c c1 b d) a (fun u w2 D a=>lA 2 44 a6 a (fun H F C a=>ah ?_))));have l:=a;exact cR 12 [⟨11,3,.cells (Nf [qF,uV 0,eS,uV 0,eS]) 44 (0,0)⟩] mixed a (bv (eg kR (fun _ _=>by kernel_rfl)) ao) (eV 0 6 (pB u) (eO 1 7 [(1,0,2)] (.agg #[.bool (af q.num),qS c ((lim (ab q.num)).length) c1]) a (eV 3 9 (qP u 2) (eO 4 10 [(1,2,1)] (qS b ((lim q.den).length) d) a (au 2 8 a (fun _ _ a=>KE q.num c c1 p (LQ.ln hq) _ _ a.g a.f.r.1) (fun B I a=>au 5 11 a (fun _ _ a=>IR q.den b d j (by first|exact hl|exact LQ.ld hq|omega) _ _ a.g a.f.2.1) (fun z _ a=>au 6 12 a (fun _ _ a=>fb q.den _ _ a.g) (fun _ _ a=>au 7 13 a (fun _ _ a=>Js q.num (q.den:Int) (by have:=q.den_pos;omega) (by have:=hq.1;omega) (by show (wds q.den).length<=_;have:=hq.2;omega) _ _ a.g a.f.1) (fun _ _ a=>eV 8 5 (.tuple #[qv (mkR q.num (q.den:Int)),qT]) (eV 9 14 (qv (mkR q.num (q.den:Int))) (eV 10 15 qT (f0 [] l a 44 [qF,uV 0,eS,uV 0,eS] (fun _ _ y a=>tP 12 0 0 (qc (mkR q.num (q.den:Int))) a (fun _ a=>tV 13 4 qT (rD (lL a [.o (qv (mkR q.num (q.den:Int))) 0 0 5] (lP 1 0 (qc (mkR q.num (q.den:Int))) a (fun _ a=>ae a [(1,0,5)] (qv (mkR q.num (q.den:Int))) (congrArg qv (xU q))))))))))))))))))))
theorem II (v:Value)(q:Rat)(hq:LQ 100000000 q)(w:World)(h:Hp)(g:G w h)(hv:RQ h v q)(f:Tab h):CV 25 #[v] w h (qv q):=by
 obtain ⟨A,c,B,d,rfl,h1,b,e,a⟩:=hv;exact Lg q A c B d h1 b hq w h g e a f
theorem uq (n:Nat)(u:(wds n).length<=100000000)(w:World)(h:Hp)(g:G w h):CR 70 #[nv n] w h (fun v h1=>RN h1 v n):=by
 have a:=sS g;have c:=mI n;refine go Tryz.func70 [(0,nv n)] rfl (ax (lA 1 40 (nc n) a (fun p w2 j a=>lL a ac (aG (lL a [.o (nv n) 0 0 2] (lC 4 a (BV n oM _ _ a.g) ?_))))));rintro _ l x a ⟨e,rfl,b⟩;replace a:=a.aS b;refine lC 5 a (B2 n ((nb n+7)/8) e ((nb n+7)/8) (nR _) oM (wY n) _ _ a.g a.f.1) ?_;rintro _ _ _ a ⟨d,i,rfl,za,zb⟩;replace a:=a.aS zb;exact lL a ac (ae a [] (qS d ((lim n).length) i) (⟨_,_,rfl,za,a.f.1⟩))
theorem DX (z:Int):bu (decide (z.sign<(0:Int))) (ab z)=z:=by
 rcases Nl z 0 with h|h|h
 ·rw[Nm h];unfold bu ab;simp;omega
 ·subst h;rfl
 ·rw[Np h];unfold bu ab;simp;omega
theorem Cw (z:Int)(D:(wds (ab z)).length<=100000000)(w:World)(h:Hp)(g:G w h):CR 68 #[iv z] w h (fun v h1=>RI h1 v z):=by
 have a:=sS g;refine go Tryz.func68 [(0,iv z)] rfl (ax (lA 1 42 (ic z) a (fun B w2 u a=>lA 2 26 ([qF,sZ]) a (fun y x p a=>ah (cR 7 [] mixed a ao ?_)))));refine eO 0 3 [(1,0,3)] (iv z) a (eO 3 6 [(1,0,3)] (iv z) a (au 1 4 a (fun _ _ a=>mn z oM _ _ a.g) (fun o C a=>eV 2 5 (.bool (decide ((z.sign:Int)<(0:Int)))) (au 4 7 a (fun _ _ a=>xa z _ _ a.g) (fun l _ a=>eC 5 8 a (fun _ _ a=>uq (ab z) (by first|exact hq.2|omega) _ _ a.g) ?_)))));rintro _ _ _ _ _ a ⟨i,e,rfl,c,d⟩;replace a:=a.aS d;refine eC 6 9 a (fun _ _ a=>rI (decide ((z.sign:Int)<(0:Int))) (ab z) i e c _ _ a.g a.f.1) ?_;rintro _ _ _ _ _ a ⟨za,zb,rfl,b,j⟩;replace a:=a.aS j;exact bP a (fun _ _ a=>tP 7 0 0 ([.bool (af (bu (decide ((z.sign:Int)<(0:Int))) (ab z))),qS za ((lim (ab (bu (decide ((z.sign:Int)<(0:Int))) (ab z)))).length) zb]) a (fun _ a=>tN (kX (a.ret [(0,0,2)] (.agg #[.bool (af (bu (decide ((z.sign:Int)<(0:Int))) (ab z))),qS za ((lim (ab (bu (decide ((z.sign:Int)<(0:Int))) (ab z)))).length) zb]) (by rw[DX] at *;exact ⟨_,_,rfl,b,a.f.1⟩)))))
theorem KQ (q:Rat)(hq:LQ 100000000 q)(w:World)(h:Hp)(g:G w h):CR 34 #[qv q] w h (fun v h1=>RQ h1 v q):=by
 have a:=sS g;refine go Tryz.func34 [(0,qv q)] rfl (ax (lA 1 44 (qc q) a (fun y w2 p a=>lA 2 28 cD a (fun x u o a=>ah (cR 7 [] mixed a ao ?_)))));refine eO 0 3 [(1,0,5)] (qv q) a (eO 3 6 [(1,0,5)] (qv q) a (au 1 4 a (fun _ _ a=>J1 q _ _ a.g) (fun l z a=>eC 2 5 a (fun _ _ a=>Cw q.num hq.1 _ _ a.g) ?_)));rintro _ _ _ _ _ a ⟨c,za,rfl,e,d⟩;replace a:=a.aS d;refine au 4 7 a (fun _ _ a=>fI q hq _ _ a.g) (fun _ _ a=>eC 5 8 a (fun _ _ a=>uq q.den (by first|exact hq.2|omega) _ _ a.g) ?_);rintro _ _ _ _ _ a ⟨zb,b,rfl,j,i⟩;replace a:=a.aS i;exact eV 6 9 (rG q c za zb b) (bP a (fun _ _ a=>tP 7 0 0 (gY q c za zb b) a (fun _ a=>tN (kX (a.ret [(0,0,3)] (rG q c za zb b) (⟨_,_,_,_,rfl,e,j,a.f.2.1,a.f.1⟩))))))
def gB (a b:Rat):Bool:=decide (a=b)
theorem EI {a b:Rat}(h1:bX (ab a.num) (ab b.num)=0)(d:af a.num=af b.num)(c:bX a.den b.den=0):true=gB a b:=by
 have e1:ab a.num=ab b.num:=by unfold bX at h1;split at h1;omega;split at h1;omega;omega
 have e:a.den=b.den:=by unfold bX at c;split at c;omega;split at c;omega;omega
 have e2:a.num=b.num:=by rw[<-mZ a.num,<-mZ b.num,e1,d]
 symm
 exact decide_eq_true (Rat.ext e2 e)
theorem nI (a:Nat):bX a a=0:=by simp[bX]
theorem ox {a b:Rat}(h:bX (ab a.num) (ab b.num)≠0\/af a.num≠af b.num\/bX a.den b.den≠0):false=gB a b:=by
 symm
 refine decide_eq_false ?_;rintro rfl
 rcases h with h|h|h
 ·exact h (nI _)
 ·exact h rfl
 ·exact h (nI _)
theorem xt (q r:Rat)(hq:LQ 100000000 q)(hr:LQ 100000000 r)(e:Option Addr)(c1:Nat)(b:Option Addr)(d:Nat)(D:(lim (ab r.num)).length<=c1)(z:(lim r.den).length<=d)(w:World)(h:Hp)(g:G w h)(p:S3 e (lim (ab r.num)) h)(x:S3 b (lim r.den) h):CV 13 #[qv q,rG r e c1 b d] w h (.bool (gB q r)):=by
 have a:=(((sS g).aS p).aS x);have l:0<(lim r.den).length:=bR.2 r.den_pos;have S:=LQ.ln hq;have Q:=LQ.ld hq;have W:=LQ.ln hr;have L:=LQ.ld hr;refine go Tryz.func13 [(0,qv q),(1,rG r e c1 b d)] rfl (ax (lA 2 44 (qc q) a (fun b1 w2 Y a=>lA 3 28 (gY r e c1 b d) a (fun i Z X a=>lL a ac (aG (lL a [.o (qv q) 1 0 5] (lC 7 a (KQ q hq _ _ a.g) ?_)))))));rintro _ _ _ a ⟨H,B,y,u,rfl,F,K,V,U⟩;replace a:=a.aP V U;refine lA 5 28 cD a (fun j _ _ a=>lP 0 0 (gY q H B y u) a (fun _ a=>ah (aa a [.v (qP i 2),.o (qS b ((lim r.den).length) d) 1 2 1,.v (nV ((lim r.den).length))] ?_)));have J:((((lim r.den).length:Nat):Int) == (0:Int))=false:=(by simp;exact fun h=>Nat.lt_irrefl 0 (by rw[h] at l;exact l));have C:=aj J;refine lB 11 J (ag (cK (aa a [.v (pB j),.v (qP j 1),.o (qS H ((lim (ab q.num)).length) B) 0 1 1,.v (pB i),.v (qP i 1),.o (qS e ((lim (ab r.num)).length) c1) 1 1 1] (ar 19 a (ia (ab q.num) H B F (ab r.num) e c1 D oM oM _ _ a.g a.f.2.1 a.f.r.2.1) (fun _ _ a=>?_)))));cases za:((bX (ab q.num) (ab r.num):Int) == (0:Int))
 .
  have O:=aj za;refine lB 20 za (lL a ac (lG 22 ?_));refine lG 23 (lG 24 (lG 25 (lG 26 (lG 27 (lG 28 (lL a [.v qF,.c] (lG 31 ?_)))))));exact lG 32 (lG 33 (lG 34 (lG 35 (lG 36 (lL a [.v qF,.c] (ae a [] qF (congrArg Value.bool (ox (by first|(left;assumption)|(right;right;assumption)|(right;left;exact beq_eq_false_iff_ne.1 ‹_›))))))))))
 have O:=eq_of_beq za;refine lB 20 za (lL a [.c,.v (pB j),.v (pB j),.o (.bool (af q.num)) 0 0 1,.v (pB i),.v (pB i),.o (.bool (af r.num)) 1 0 1] ?_);cases I:((af q.num) == (af r.num))
 .
  refine lB 28 I (lL a [.v qF,.c] (lG 31 ?_));exact lG 32 (lG 33 (lG 34 (lG 35 (lG 36 (lL a [.v qF,.c] (ae a [] qF (congrArg Value.bool (ox (by first|(left;assumption)|(right;right;assumption)|(right;left;exact beq_eq_false_iff_ne.1 ‹_›))))))))))
 refine lB 28 I (lL a [.v qT,.c,.v (qP j 2),.o (qS y ((lim q.den).length) u) 0 2 1,.v (qP i 2),.o (qS b ((lim r.den).length) d) 1 2 1] (ar 35 a (ia q.den y u K r.den b d z oM oM _ _ a.g a.f.1 a.f.r.1) (fun _ _ a=>?_)));cases zb:((bX q.den r.den:Int) == (0:Int))
 .
  have M:=aj zb;exact lB 36 zb (lL a [.v qF,.c] (ae a [] qF (congrArg Value.bool (ox (by first|(left;assumption)|(right;right;assumption)|(right;left;exact beq_eq_false_iff_ne.1 ‹_›))))))
 have M:=eq_of_beq zb;exact lB 36 zb (lL a [.v qT,.c] (ae a [] qT (congrArg Value.bool (EI aM (eq_of_beq ‹_›) aM))))
theorem LQ.mkR {n d:Int}(h:d≠0)(h0 : -9223372036854775808<=n)(h1:n<=9223372036854775807)(f : -9223372036854775808<=d)(i:d<=9223372036854775807):LQ 1 (mkR n d):=by
 unfold Go.Proofs.YtnphimgdpdiekaaGreatDoor.mkR
 have a:0<ab d:=by unfold ab;omega
 obtain ⟨e,c,b,j⟩:=iQ (if d<0 then -n else n) (ab d) a;refine ⟨?_,?_⟩
 ·rw[e];refine eD.2 (LM (ck _ _ b) ?_)
  unfold ab;split<;>omega
 ·rw[c];exact eD.2 (LM (LN _ _) (by unfold ab;omega))
theorem oa (q:Rat)(z e:Int)(hq:LQ 100000000 q)(p:e≠0)(c : -9223372036854775808<=z)(j:z<9223372036854775808)(B : -4294967296<e)(y:e<4294967296)(w:World)(h:Hp)(g:G w h):CV 33 #[qv q,iV z,iV e] w h (.bool (gB q (mkR z e))):=by
 have a:=sS g;have o:LQ 100000000 (mkR z e):=(LQ.mkR p c oM oM oM).mono oM;refine go Tryz.func33 [(0,qv q),(1,iV z),(2,iV e)] rfl (ax (lA 3 44 (qc q) a (fun D w2 C a=>lL a ac (ah (cR 5 [] mixed a ao ?_)))));refine eO 0 7 [(0,0,5)] (qv q) a (eV 1 8 (iV z) (eV 2 9 (iV e) (eC 3 10 a (fun _ _ a=>BU z e oM oM oM oM oM _ _ a.g) ?_)));rintro _ _ _ _ _ a ⟨x,i,l,u,rfl,d,za,b,zb⟩;replace a:=a.aP b zb;exact au 4 11 a (fun _ _ a=>xt q (mkR z e) hq o x i l u d za _ _ a.g a.f.2.1 a.f.1) (fun _ _ a=>bP a (fun _ _ a=>tV 5 6 (.bool (gB q (mkR z e))) (tN (kX (a.ret [] (.bool (gB q (mkR z e))) rfl)))))
def aU (n:Int)(m:Nat):Nat:=(n%(m:Int)).toNat
theorem cO (n:Int)(m:Nat)(h:0<m):aU n m<m:=by
 unfold aU
 have h1:=NU n (show (m:Int)≠0 by omega);have a:=NV n (show (0:Int)<m by omega)
 omega
theorem qW (n:Int)(m:Nat)(h:0<m):((aU n m:Nat):Int)=n%(m:Int):=by
 unfold aU
 have h1:=NU n (show (m:Int)≠0 by omega)
 omega
theorem rm (n:Int)(m:Nat)(b:0<m)(hn:n<0):(n%(m:Int)=0/\n.tmod (m:Int)=0)\/(0<n%(m:Int)/\n.tmod (m:Int)=n%(m:Int)-m):=by
 have c:=NU n (show (m:Int)≠0 by omega);rw[Int.tmod_eq_emod]
 by_cases h:(m:Int)∣n
 ·left
  rw[if_pos (.inr h)];have:=Int.emod_eq_zero_of_dvd h;exact ⟨this,by omega⟩
 ·right
  have a:¬(n%(m:Int)=0):=fun h'=>h (Int.dvd_of_emod_eq_zero h')
  rw[if_neg (by intro h';rcases h' with h'|h';omega;exact h h')];refine ⟨by omega,by simp⟩
def oD (k:Nat):Nat:=match k with|0=>1|1=>1|2=>1|3=>2|4=>3|_=>4
theorem qh (k:Nat):0<oD k:=by unfold oD;split<;>omega
theorem uY (k:Nat):oD k<=4:=by unfold oD;split<;>omega
def dN (n:Int):Rat:=mkR ((aU n 41:Int)-20) (oD (aU (n.tdiv 41) 6):Nat)
def FO (n:Int):Rat:=mkR ((aU n 9:Int)-4) (((aU (n.tdiv 9) 2:Nat):Int)+1)
theorem uZ (n:Int)(m:Int)(c:1<m)(a : -9223372036854775808<=n)(b:n<=9223372036854775807) : -9223372036854775808<=n.tdiv m/\n.tdiv m<=9223372036854775807:=by
 have h1:(n.tdiv m).natAbs<=n.natAbs/2:=by
  rw[Int.natAbs_tdiv];exact Nat.div_le_div_left oM oM
 omega
theorem AC {n:Int}{m:Nat}(a:0<m)(h:n.tmod (m:Int)<0):n.tmod (m:Int)+m=((aU n m:Nat):Int):=by
 rw[qW n m a]
 rcases NW n 0 with hn|hn
 ·rcases rm n m a hn with ⟨h1,h2⟩|⟨h1,h2⟩<;>omega
 ·rw[NX hn] at h
  have:=NU n (show (m:Int)≠0 by omega)
  omega
theorem vQ {n:Int}{m:Nat}(a:0<m)(h:¬n.tmod (m:Int)<0):n.tmod (m:Int)=((aU n m:Nat):Int):=by
 rw[qW n m a]
 rcases NW n 0 with hn|hn
 ·rcases rm n m a hn with ⟨h1,h2⟩|⟨h1,h2⟩
  ·omega
  ·have:=NV n (show (0:Int)<m by omega)
   omega
 ·rw[NX hn]
theorem Cv (n:Int){m:Nat}(b:0<m) : -(m:Int)<n.tmod (m:Int)/\n.tmod (m:Int)<m:=by
 have h1:=Int.tmod_lt_of_pos n (show (0:Int)<m by omega);have a:=Int.lt_tmod_of_pos n (show (0:Int)<m by omega);exact ⟨a,h1⟩
theorem eL (n:Int)(m:Nat)(f:0<m)(i:m<1000000)(w:World)(h:Hp)(g:G w h):CV 15 #[iV n,nV m] w h (nV (aU n m)):=by
 have c:=sS g;obtain ⟨l,j⟩:=Cv n f;refine go Tryz.func15 [(0,iV n),(1,nV m)] rfl (aa c ac (aG (lL c aD (lV 7 (iV (n.tmod (m:Nat))) ?_ (hr:=ft (t:=3) (u:=3) (x:=.tmp 5) (y:=.tmp 6) (k:=.i64) (a:=n) (b:=(m:Nat)) kR kR kR oM _)))));refine lL c ac (ah (aa c ac ?_));cases d:(decide ((n.tmod (m:Nat):Int)<(0:Int)))
 .
  have e:=oF d;exact lB 9 d (ag (cK (aa c aD (ae c [] (iV (n.tmod (m:Nat))) (congrArg (Value.int .i64) (vQ f aM))))))
 have e:=oT d;refine lB 9 d (ak (kQ (lL c aD (lI 12 ((n.tmod (m:Nat))+(m:Nat)) ?_))));exact lL c ac (aG (lL c aD (ae c [] (iV ((n.tmod (m:Nat))+(m:Nat))) (congrArg (Value.int .i64) (AC f aM)))))
theorem BN (w:World):(Instr.index 145 (.agg #[.int .i64 1,.int .i64 1,.int .i64 1,.int .i64 2,.int .i64 3,.int .i64 4]) (.int .i64 0)).run Tryz.prog w=.ok (.int .i64 1) w:=by kernel_rfl
theorem BH (w:World):(Instr.index 145 (.agg #[.int .i64 1,.int .i64 1,.int .i64 1,.int .i64 2,.int .i64 3,.int .i64 4]) (.int .i64 1)).run Tryz.prog w=.ok (.int .i64 1) w:=by kernel_rfl
theorem wy (w:World):(Instr.index 145 (.agg #[.int .i64 1,.int .i64 1,.int .i64 1,.int .i64 2,.int .i64 3,.int .i64 4]) (.int .i64 2)).run Tryz.prog w=.ok (.int .i64 1) w:=by kernel_rfl
theorem BL (w:World):(Instr.index 145 (.agg #[.int .i64 1,.int .i64 1,.int .i64 1,.int .i64 2,.int .i64 3,.int .i64 4]) (.int .i64 3)).run Tryz.prog w=.ok (.int .i64 2) w:=by kernel_rfl
theorem AV (w:World):(Instr.index 145 (.agg #[.int .i64 1,.int .i64 1,.int .i64 1,.int .i64 2,.int .i64 3,.int .i64 4]) (.int .i64 4)).run Tryz.prog w=.ok (.int .i64 3) w:=by kernel_rfl
theorem Bl (w:World):(Instr.index 145 (.agg #[.int .i64 1,.int .i64 1,.int .i64 1,.int .i64 2,.int .i64 3,.int .i64 4]) (.int .i64 5)).run Tryz.prog w=.ok (.int .i64 4) w:=by kernel_rfl
theorem Hr (k:Nat)(h:k<6)(w:World):(Instr.index 145 (.agg #[.int .i64 1,.int .i64 1,.int .i64 1,.int .i64 2,.int .i64 3,.int .i64 4]) (.int .i64 (k:Int))).run Tryz.prog w=.ok (.int .i64 ((oD k:Nat):Int)) w:=by
 have:k=0\/k=1\/k=2\/k=3\/k=4\/k=5:=by omega
 rcases this with rfl|rfl|rfl|rfl|rfl|rfl
 ·exact BN w
 ·exact BH w
 ·exact wy w
 ·exact BL w
 ·exact AV w
 ·exact Bl w
theorem KO {Γ:bU}{o:Oper}{x y:Operand}(k:Nat)(h:k<6)(c:o.op=.index 145 x y)(b:ev Γ x=.agg #[.int .i64 1,.int .i64 1,.int .i64 1,.int .i64 2,.int .i64 3,.int .i64 4])(a:ev Γ y=.int .i64 (k:Nat))(w:World) :
  (execOp (ev Γ) o).run Tryz.prog w=.ok (.value (.int .i64 (oD k:Nat))) w:=by
 unfold execOp;simp only[c];rw[b,a,Sem.run_bind,Hr k h w];rfl
theorem hR (n:Int)(h0 : -9223372036854775808<=n)(h1:n<=9223372036854775807)(w:World)(h:Hp)(g:G w h):CR 40 #[iV n] w h (fun v h1=>RQ h1 v (dN n)):=by
 have a:=sS g;obtain ⟨L,K⟩:=uZ n 41 oM h0 h1;have C:=cO n 41 oM;have l2:=cO (n.tdiv 41) 6 oM;have B:=qh (aU (n.tdiv 41) 6);have I:=uY (aU (n.tdiv 41) 6);refine go Tryz.func40 [(0,iV n)] rfl (ax (lA 2 28 cD a (fun J w2 F a=>aG (lL a ac (ar 4 a (eL (n) 41 oM oM _ _ a.g) (fun H D a=>?_))))));have o:=cO (n) 41 oM;refine lI 5 ((aU (n) 41:Nat)-20) (lL a [.v (.agg #[iV 1,iV 1,iV 1,iV 2,iV 3,iV 4]),.c] (lV 8 (iV (n.tdiv 41)) ?_ (hr:=rS ((n.tdiv 41)) kR (oE oM oM))));refine ar 9 a (eL (n.tdiv 41) 6 oM oM _ _ a.g) (fun z u a=>?_);have i:=cO (n.tdiv 41) 6 oM;refine lV 10 (nV (oD (aU (n.tdiv 41) 6))) ?_ (hr:=KO (x:=.tmp 6) (y:=.tmp 9) (aU (n.tdiv 41) 6) l2 kR kR kR _);refine lC 11 a (BU ((aU (n) 41:Nat)-20) (oD (aU (n.tdiv 41) 6):Nat) oM oM oM oM oM _ _ a.g) ?_;rintro _ _ _ a ⟨za,zb,b,d,rfl,e,p,l,j⟩;replace a:=a.aP l j;exact lP 0 0 (gY (dN n) za zb b d) a (fun _ a=>ae a [(0,0,3)] (rG (dN n) za zb b d) (⟨_,_,_,_,rfl,e,p,a.f.2.1,a.f.1⟩))
theorem LQ.hand (n:Int):LQ 1 (dN n):=by
 unfold dN
 have b:=cO n 41 oM;have a:=qh (aU (n.tdiv 41) 6);have c:=uY (aU (n.tdiv 41) 6);exact LQ.mkR oM oM oM oM oM
abbrev RT:=Bool × Value × Value
def eJ (t:RT):List Value:=[.bool t.1,t.2.1,t.2.2]
def fz:RT:=(false,undef,undef)
abbrev rA (t:RT):Value:=.agg #[.bool t.1,t.2.1,t.2.2]
abbrev Sr (A:Option Addr)(l:List RT):Hp->Prop:=fun h_=>SlO 3 eJ fz h_ A l
def tU (t:RT):Value:=.agg #[.bool t.1,t.2.1,t.2.2]
structure RTs (h:Hp) (ts:List RT) (qs:List Rat):Prop where
  len:ts.length=qs.length
  at_:∀ i,i<qs.length->RQ h (tU (ts.getD i fz)) (qs.getD i 0)
abbrev Rt (t:List RT)(l:List Rat):Hp->Prop:=fun h_=>RTs h_ t l
theorem RTs.gw {h h':Hp}{a:List RT}{b:List Rat}(r:RTs h a b)(u:Gw h h'):RTs h' a b:=⟨r.len,fun i hi=>(r.at_ i hi).gw u⟩
theorem SS.aT {t:List RT}{l:List Rat}{w0 w:World}{h0 h:Hp}{B:List Bx}{R:List Rw}{F:List (Hp->Prop)}(s:SS w0 h0 w h B R F)(p:RTs h t l):SS w0 h0 w h B R (Rt t l::F):=s.add (K:=Rt t l) p
theorem RTs.nil {h:Hp}:RTs h [] []:=⟨rfl,fun i hi=>by simp at hi⟩
theorem eA {α:Type}(l:List α)(x d:α)(i:Nat):(l++[x]).getD i d=if i<l.length then l.getD i d else if i=l.length then x else d:=by
 split
 ·rename_i h;simp[List.getElem?_append_left h]
 ·rename_i h
  split
  ·rename_i a;subst a;simp
  ·rename_i a;simp[tv (show (l++[x]).length<=i by simp;omega)]
theorem RTs.snoc {h:Hp}{b:List RT}{a:List Rat}(r:RTs h b a){t:RT}{q:Rat}(hq:RQ h (tU t) q):RTs h (b++[t]) (a++[q]):=by
 refine ⟨by simp[r.len],fun i hi=>?_⟩;rw[eA,eA,r.len]
 split
 ·rename_i h1;exact r.at_ i h1
 ·rename_i h1
  have:i=a.length:=by simp at hi;omega
  rw[if_pos this,if_pos this];exact hq
theorem lu {α:Type}{l:List α}{k:Nat}(d:α)(h:k<l.length):l.take (k+1)=l.take k++[l.getD k d]:=by
 rw[List.take_add_one];simp[h]
def vc (v:Value):List Value:=[v]
abbrev Sv (A:Option Addr)(l:List Value):Hp->Prop:=fun h_=>SlO 1 vc undef h_ A l
def l6 (zs:List Int):Nat->List Rat
  | 0=>[]
  | k+1=>l6 zs k++[if k<zs.length then dN (zs.getD k 0) else 0]
theorem lJ (a:List Int)(k:Nat):(l6 a k).length=k:=by induction k with|zero=>rfl|succ k ih=>simp[l6,ih]
def oQ (zs:List Int):Prop:=∀ k,-9223372036854775808<=zs.getD k 0/\zs.getD k 0<=9223372036854775807
structure RVs (h:Hp) (vs:List Value) (qss:List (List Rat)):Prop where
  len:vs.length=qss.length
  at_:∀ i,i<qss.length->∃ A cap,∃ ts:List RT,vs.getD i undef=.slice A ts.length cap/\ts.length<=cap/\SlO 3 eJ fz h A ts/\RTs h ts (qss.getD i [])
abbrev Ru (t:List Value)(l:List (List Rat)):Hp->Prop:=fun h_=>RVs h_ t l
structure QVs (h:Hp) (vs:List Value) (qss:List (List Rat)):Prop where
  len:vs.length=qss.length
  at_:∀ i,i<qss.length->Jz 5 qc 0 h (vs.getD i undef) (qss.getD i [])
abbrev Qu (t:List Value)(l:List (List Rat)):Hp->Prop:=fun h_=>QVs h_ t l
theorem nZ {b:List Int}{k:Nat}{q:Rat}(hq:(if k<b.length then dN (b.getD k 0) else 0)=q){a:List RT}{h':Hp}(c:RTs h' a (l6 b k++[q])):RTs h' a (l6 b (k+1)):=by
 show RTs h' a (l6 b k++[_]);rw[hq];exact c
theorem oo (a:List Int):∀ n i,LQ 1 ((l6 a n).getD i 0)
  | 0,i=>LQ.lit (z:=0) kD
  | n + 1,i=>by
    show LQ 1 ((l6 a n++[_]).getD i 0)
    rw[eA]
    split
    . exact oo a n i
    . split
      . split
        . exact LQ.hand _
        . exact LQ.lit (z:=0) kD
      . exact LQ.lit (z:=0) kD
theorem lp {h:Hp}{A D:Option Addr}{c d:Nat}{q:Rat}(h1:(lim (ab q.num)).length<=c)(b:(lim q.den).length<=d)(e:SlO 1 az 0 h A (lim (ab q.num)))(a:SlO 1 az 0 h D (lim q.den)):RQ h (tU ((af q.num,.slice A (lim (ab q.num)).length c,.slice D (lim q.den).length d):RT)) q:=⟨_,_,_,_,rfl,h1,b,e,a⟩
theorem GD (A:Option Addr)(j:Nat)(d:List RT)(b:List Rat)(Y:b.length<=1000000)(hf:∀ i,i<b.length->LQ 100000000 (b.getD i 0))(w:World)(h:Hp)(g:G w h)(S:Sr A d h)(Q:RTs h d b)(J:Tab h):CR 10 #[.slice A d.length j] w h (fun v h1=>Jz 5 qc 0 h1 v b):=by
 have a:=((((sS g).aS S).aT Q).aB J);have F:=(a.f.2.1).len;refine go Tryz.func10 [(0,qS A d.length j)] rfl (aa a ac (aG (lL a ac (ah (aa a ac (aY ?_))))));replace a:=a.nil 44 5;refine bH _ (CG.loop (fun D Γ K=>∃ (k:Nat) (x:Option Addr) (u:Nat) (e:List Rat) (B:Hp),D=b.length-k/\Γ=[(0,qS A d.length j),(2,sZ),(4,nV k),(3,qS x ((e).length) u)]/\SS w h K B [] [⟨44,5,x,u,(e).length,(e).flatMap qc⟩] [fun B=>Tab B,Rt d b,Sr A d]/\k<=b.length/\e=b.take k) _ ⟨0,none,0,[],h,rfl,rfl,a.to _ _,MG _,rfl⟩ ?_);rintro _ _ w1 ⟨k,x,u,e,U,I,rfl,a,hk,p⟩;have M:e.length=k:=by rw[p];simp;omega
 refine cQ (aa a [.c,.c,.v (nV d.length)] ?_);cases o:(decide ((k:Int)<(d.length:Int)))
 .
  have y:=oF o;refine lB 8 o (ag (CG.exit ?_))
  show CG _ _ _ _ _ _ _ _
  refine aa a aD (lN (kX ?_));have z:e=b:=by rw[p];exact Mu oM
  subst z;obtain ⟨Z,a,C⟩:=a.pubr 0 (A:=x) (c:=u) (l:=e) (f:=qc) (ty:=44) (sz:=5) 0 (fun _=>rfl);exact a.ret [] (qS x ((e).length) u) (⟨_,_,rfl,C,a.f.1⟩)
 have y:=oT o;refine lB 8 o (ak (cK (cQ (kZ (kQ (lL a di (lX 14 A d.length j 3 (k:Nat) k ((a.f.r.1).ok oM) ?_)))))));refine lH 15 (rA (d.getD k fz)) a ((a.f.r.1).el k oM) (ar 16 a (II _ (b.getD k 0) (hf k oM) _ _ a.g ((a.f.2.1).at_ k oM) a.f.1) (fun W V a=>lR 17 44 1 (qc (b.getD k 0)) a (fun za _ _ a=>lY 18 0 44 5 u x e qc (b.getD k 0) 56 za cA a a.f.1 (fun zb H _ L a=>lL a ac (lN (kQ (lL a ac (bh 10 ((k:Nat)+1) (k+1) ?_))))))));refine lL a ac (lD ?_);intro X O;replace a:=a.tl;refine ⟨_,_,?_,⟨k+1,zb,H,e++[b.getD k 0],L,rfl,rfl,a.to _ _,oM,(by rw[lu 0 oM,p])⟩,O.to _ kR⟩
 omega
theorem Jx (A:Option Addr)(e:Nat)(b:List Int)(n:Nat)(hn:n<=1000000)(hl:b.length<=9223372036854775807)(hz:oQ b)(w:World)(h:Hp)(g:G w h)(hA:Si A b h):CR 21 #[.slice A b.length e,nV n] w h (fun v h1=>∃ A c,∃ d:List RT,v=.slice A d.length c/\d.length<=c/\Sr A d h1/\RTs h1 d (l6 b n)):=by
 have a:=((sS g).aS hA);refine go Tryz.func21 [(0,qS A b.length e),(1,nV n)] rfl (aa a ac (aG (lL a ac (ah (aa a ac (aY ?_))))));replace a:=a.nil 28 3;replace a:=a.aT (RTs.nil);refine bH _ (CG.loop (fun L Γ U=>∃ (k:Nat) (p:Option Addr) (o:Nat) (d:List RT) (h_:Hp),L=n-k/\Γ=[(0,qS A b.length e),(1,nV n),(4,sZ),(6,nV k),(5,qS p ((d).length) o)]/\SS w h U h_ [] [⟨28,3,p,o,(d).length,(d).flatMap eJ⟩] [Rt d (l6 b k),Si A b]/\k<=n) _ ⟨0,none,0,[],h,rfl,rfl,a.to _ _,MG _⟩ ?_);rintro _ _ w1 ⟨k,p,o,d,h2,S,rfl,a,hk⟩;have H:=(a.f.1).len;rw[lJ] at H
 refine cQ (aa a aD ?_);cases j:(decide ((k:Int)<(n:Int)))
 .
  have u:=oF j;refine lB 9 j (ag (CG.exit ?_))
  show CG _ _ _ _ _ _ _ _
  refine aa a aD (lN (kX ?_));have B:k=n:=by omega
  subst B;obtain ⟨h5,a,J⟩:=a.pubr 0 (A:=p) (c:=o) (l:=d) (f:=eJ) (ty:=28) (sz:=3) fz (fun _=>rfl);exact a.ret [] (qS p ((d).length) o) (⟨_,_,d,rfl,J,a.f.1,a.f.2.1⟩)
 have u:=oT j;refine lB 9 j (ak (cK (cQ (kZ (aa a [.c,.c,.v (nV b.length)] ?_)))));cases i:(decide ((k:Int)<(b.length:Int)))
 .
  have x:=oF i;refine lB 15 i (ag (kQ (lL a ac (lC 25 a (pp 0 oM oM _ _ a.g) ?_))));rintro _ _ _ a ⟨z,za,zb,y,rfl,Z,V,Q,zl⟩;replace a:=a.aP Q zl;refine lR 26 28 1 (gY ((0:Int):Rat) z za zb y) a (fun zq _ _ a=>lY 27 0 28 3 o p d eJ ((af ((0:Int):Rat).num,qS z ((lim (ab ((0:Int):Rat).num)).length) za,qS zb ((lim ((0:Int):Rat).den).length) y):RT) 56 zq (.agg #[qF,sZ,sZ]) a a.f.1 (fun zr O _ zu a=>lL a ac (lN (kQ (lL a ac (bh 11 ((k:Nat)+1) (k+1) ?_))))));refine lL a ac (lD ?_);intro W I;replace a:=(a.tl.tl.tl.tl.add (K:=Rt (d++[((af ((0:Int):Rat).num,qS z ((lim (ab ((0:Int):Rat).num)).length) za,qS zb ((lim ((0:Int):Rat).den).length) y):RT)]) (l6 b (k+1))) (nZ ((if_neg oM).trans (show (0:Rat)=((0:Int):Rat) from rfl)) (RTs.snoc a.f.r.2.1 (lp Z V a.f.r.1 a.f.2.1))));refine ⟨_,_,?_,⟨k+1,zr,O,d++[((af ((0:Int):Rat).num,qS z ((lim (ab ((0:Int):Rat).num)).length) za,qS zb ((lim ((0:Int):Rat).den).length) y):RT)],zu,rfl,rfl,a.to _ _,oM⟩,I.to _ kR⟩
  omega
 have x:=oT i;refine lB 15 i (ak (kQ (lL a di (lX 19 A b.length e 1 (k:Nat) k ((a.f.2.1).ok oM) ?_))));refine lH 20 (iV (b.getD k 0)) a ((a.f.2.1).el k oM) (lC 21 a (hR (b.getD k 0) (hz k).1 (hz k).2 _ _ a.g) ?_);rintro _ _ _ a ⟨D,C,M,F,rfl,zm,X,zo,zp⟩;replace a:=a.aP zo zp;refine lR 22 28 1 (gY (dN (b.getD k 0)) D C M F) a (fun zv _ _ a=>lY 23 0 28 3 o p d eJ ((af (dN (b.getD k 0)).num,qS D ((lim (ab (dN (b.getD k 0)).num)).length) C,qS M ((lim (dN (b.getD k 0)).den).length) F):RT) 56 zv (.agg #[qF,sZ,sZ]) a a.f.1 (fun Y zx _ zA a=>lL a ac (lN (kQ (lL a ac (bh 11 ((k:Nat)+1) (k+1) ?_))))));refine lL a ac (lD ?_);intro W I;replace a:=(a.tl.tl.tl.tl.aT (nZ (if_pos oM) (RTs.snoc a.f.r.2.1 (lp zm X a.f.r.1 a.f.2.1))));refine ⟨_,_,?_,⟨k+1,Y,zx,d++[((af (dN (b.getD k 0)).num,qS D ((lim (ab (dN (b.getD k 0)).num)).length) C,qS M ((lim (dN (b.getD k 0)).den).length) F):RT)],zA,rfl,rfl,a.to _ _,oM⟩,I.to _ kR⟩
 omega
theorem Em {α:Type}{d:α}{a b:List α}{k:Nat}(h:∀ i,i<k->a.getD i d=b.getD i d)(c:a.getD k d=b.getD k d):∀ i,i<k+1->a.getD i d=b.getD i d:=fun i hi=>by
 by_cases e:i=k
 ·rw[e];exact c
 ·exact h i oM
theorem I5 {α:Type}[DecidableEq α]{d:α}{a b:List α}(c:a.length=b.length)(h:∀ i,i<a.length->a.getD i d=b.getD i d):Value.bool true=.bool (decide (a=b)):=by
 rw[decide_eq_true];refine NY c (fun i h1 e=>?_);have:=h i h1
 simpa [h1,e] using this
theorem Im {α:Type}[DecidableEq α]{a b:List α}(c:a.length≠b.length):Value.bool false=.bool (decide (a=b)):=by
 rw[decide_eq_false];intro e;exact c (by rw[e])
theorem F5 {α:Type}[DecidableEq α]{d:α}{a b:List α}(k:Nat)(h:a.getD k d≠b.getD k d):Value.bool false=.bool (decide (a=b)):=by
 rw[decide_eq_false];intro e;exact h (by rw[e])
theorem xz (A:Option Addr)(p:Nat)(b ps:List Rat)(D:Option Addr)(u:Nat)(d:List RT)(hl:b.length<=1000000)(L:ps.length<=1000000)(hf:∀ i,i<b.length->LQ 100000000 (b.getD i 0))(C:∀ i,i<ps.length->LQ 100000000 (ps.getD i 0))(w:World)(h:Hp)(g:G w h)(Z:Sq A b h)(J:Sr D d h)(X:RTs h d ps):CV 14 #[.slice A b.length p,.slice D d.length u] w h (.bool (decide (b=ps))):=by
 have a:=((((sS g).aS Z).aS J).aT X);have V:=(a.f.1).len;refine go Tryz.func14 [(0,qS A b.length p),(1,qS D d.length u)] rfl (aa a ac (ah (aa a [.c,.v (nV b.length),.c,.v (nV d.length)] ?_)));cases j:((b.length:Int) != (d.length:Int))
 .
  have o:=aW j;refine lB 10 j (ag (cK (cQ (aa a ac (aY ?_)))));refine bH _ (CG.loop (fun H Γ Q=>∃ (k:Nat) (h_:Hp),H=b.length-k/\Γ=[(0,qS A b.length p),(1,qS D d.length u),(5,nV k)]/\SS w h Q h_ [] [] [Rt d ps,Sr D d,Sq A b]/\k<=b.length/\b.length=ps.length/\(∀ i,i<k->b.getD i 0=ps.getD i 0)) _ ⟨0,h,rfl,rfl,a.to _ _,MG _,by omega,fun i hi=>absurd hi (Nat.not_lt_zero i)⟩ ?_);rintro _ _ w2 ⟨k,h3,K,rfl,a,hk,l,y⟩;refine cQ (aa a [.c,.c,.v (nV b.length)] ?_);cases e:(decide ((k:Int)<(b.length:Int)))
  .
   have x:=oF e;refine lB 14 e (ag (CG.exit ?_))
   show CG _ _ _ _ _ _ _ _
   exact aa a ac (ae a [] qT (I5 l (fun i hi=>y i oM)))
  have x:=oT e;refine lB 14 e (ak (cK (cQ (kZ (cQ (cR 10 [] mixed a ao ?_))))));refine eV 0 17 (qS A b.length p) (eV 1 18 (nV k) (eX 2 19 A b.length p 5 (k:Nat) k ((a.f.r.1).ok oM) (eH 3 20 (qv (b.getD k 0)) a ((a.f.r.1).el k oM) (eV 4 21 (qS D d.length u) (eV 5 22 (nV k) (eX 6 23 D d.length u 3 (k:Nat) k ((a.f.2.1).ok oM) ?_))))));obtain ⟨Y,S,O,U,M,F,I,z,B⟩:=(a.f.1).at_ k oM;replace a:=a.aP z B;refine vy 7 24 (rA (d.getD k fz)) a ((a.f.r.2.1).el k oM) M (au 8 25 a (fun _ _ a=>xt (b.getD k 0) (ps.getD k 0) (hf k oM) (C k oM) Y S O U F I _ _ a.g a.f.2.1 a.f.1) (fun w6 h7 a=>?_));cases hb8:(gB (b.getD k 0) (ps.getD k 0))
  .
   exact eV 9 26 qT (bP a (fun w9 _ a=>tN (co (aa a ac (ae a [] qF (F5 k (oF ‹gB _ _=false›)))))))
  refine eV 9 26 qF (bP a (fun _ za a=>tN (dr (cK (kQ (lL a ac (bh 16 ((k:Nat)+1) (k+1) ?_)))))));refine lL a ac (lD ?_);intro a_ W;replace a:=a.tl.tl;refine ⟨_,_,?_,⟨k+1,za,rfl,rfl,a.to _ _,oM,l,(Em y (oT ‹gB _ _=true›))⟩,W.to _ kR⟩
  omega
 have o:=aN j;exact lB 10 j (ak (aa a ac (ae a [] qF (Im oM))))
def maxR (a b:Rat):Rat:=if a<b then b else a
theorem LQ.maxR {k:Nat}{a b:Rat}(ha:LQ k a)(c:LQ k b):LQ k (maxR a b):=by unfold Go.Proofs.YtnphimgdpdiekaaGreatDoor.maxR;split;exact c;exact ha
structure Lay where
  k:Int
  W:List (List Rat)
  B:List Rat
def jg:Lay:=⟨0,[],[]⟩
abbrev LV:=Int × Value × Value
def HY:LV:=(0,undef,undef)
structure NetL (h:Hp) (ts:List LV) (ls:List Lay):Prop where
  len:ts.length=ls.length
  at_:∀ i,i<ls.length->(ts.getD i HY).1=(ls.getD i jg).k/\(∃ A c,∃ us:List Value,(ts.getD i HY).2.1=.slice A us.length c/\us.length<=c/\SlO 1 vc undef h A us/\QVs h us (ls.getD i jg).W)/\Jz 5 qc 0 h (ts.getD i HY).2.2 (ls.getD i jg).B
abbrev Nn (t:List LV)(l:List Lay):Hp->Prop:=fun h_=>NetL h_ t l
structure RNetL (h:Hp) (ts:List LV) (ls:List Lay):Prop where
  len:ts.length=ls.length
  at_:∀ i,i<ls.length->(ts.getD i HY).1=(ls.getD i jg).k/\(∃ A c,∃ us:List Value,(ts.getD i HY).2.1=.slice A us.length c/\us.length<=c/\SlO 1 vc undef h A us/\RVs h us (ls.getD i jg).W) /\
    (∃ A c,∃ rs:List RT,(ts.getD i HY).2.2=.slice A rs.length c/\rs.length<=c/\SlO 3 eJ fz h A rs/\RTs h rs (ls.getD i jg).B)
abbrev Rn (t:List LV)(l:List Lay):Hp->Prop:=fun h_=>RNetL h_ t l
def An (l:List Rat):Prop:=∀ q∈l,∃ z,q=FO z
structure LayMk (L:Lay) (kq:Nat) (r c:Nat):Prop where
  k:L.k=(kq:Int)
  rows:L.W.length=r
  row:∀ q∈L.W,q.length=c/\An q
  bl:L.B.length=r
  bs:An L.B
theorem Ao (A:Option Addr)(i:Nat)(e:List Int)(L:e.length<=9223372036854775807)(hz:oQ e)(a at_:Nat)(ha:at_<=e.length)(w:World)(h:Hp)(g:G w h)(D:Own w a 69 [.slice A e.length i,nV at_])(y:h[a]?=some bc)(F:Si A e h):Calls Tryz.prog 39 #[pB a] w (eP a w h fun v w' _=>∃ (z:Int) (at2:Nat),v=iV z/\at2<=e.length/\(-9223372036854775808<=z/\z<=9223372036854775807)/\Own w' a 69 [.slice A e.length i,nV at2]):=by
 have d:UpM [a] w h w h:=UpM.refl g;obtain ⟨wz,u,b⟩:=SS.at_ g D y;replace b:=b.aS F;refine go Tryz.func39 [(0,pB a)] rfl (aa b ac (ah (cQ (cR 10 [] mixed b ao ?_))));refine eV 0 3 (pB a) (eV 1 4 (pB a) (eV 2 5 (qP a 1) (eO 3 6 [(0,1,1)] (nV at_) b (eV 4 7 (pB a) (eV 5 8 (pB a) (eV 6 9 (pB a) (eO 7 10 [(0,0,1)] (qS A e.length i) b (eV 8 11 (nV e.length) ?_))))))));cases j:(decide ((e.length:Int)<=(at_:Int)))
 .
  have l:=oF j;refine eB 9 12 j (jJ b (fun w2 I B b=>?_));replace d:=d.trans (B.m _);refine tN (dr (cK (aa b [.c,.v (pB a),.v (qP a 1),.o (nV at_) 0 1 1] (bh 17 ((at_:Nat)+1) (at_+1) ?_))));refine lL b [.v (pB a),.v (qP a 1)] (nP 0 1 ([nV (at_+1)]) b (fun K C b=>?_));replace d:=d.put C (te.2 rfl) b.g;refine ah (cR 11 [] mixed b ao ?_);refine eV 0 20 (pB a) (eV 1 21 (pB a) (eV 2 22 (pB a) (eO 3 23 [(0,0,1)] (qS A e.length i) b (eV 4 24 (pB a) (eV 5 25 (pB a) (eV 6 26 (qP a 1) (eO 7 27 [(0,1,1)] (nV (at_+1)) b (jX 8 28 ((at_+1:Nat)-1) ((at_+1)-1) (eX 9 29 A e.length i 1 ((at_+1)-1:Nat) ((at_+1)-1) ((b.f.1).ok oM) (eH 10 30 (iV (e.getD ((at_+1)-1) 0)) b ((b.f.1).el ((at_+1)-1) oM) (jJ b (fun J M x b=>?_))))))))))));replace d:=d.trans (x.m _);exact tV 11 2 (iV (e.getD ((at_+1)-1) 0)) (tN (kX (b.retM d [] (iV (e.getD ((at_+1)-1) 0)) ⟨e.getD ((at_+1)-1) 0,(at_+1),rfl,by omega,hz _,b.own 0⟩)))
 have l:=oT j;refine eB 9 12 j (jJ b (fun H _ p b=>?_));replace d:=d.trans (p.m _);exact tN (co (aa b ac (lN (kX (b.retM d [] (iV 0) ⟨0,at_,rfl,by omega,⟨by decide,by decide⟩,b.own 0⟩)))))
structure LayFit (L:Lay):Prop where
  rl:L.W.length<=1000000
  rls:∀ i,i<L.W.length->(L.W.getD i []).length<=1000000
  rf:∀ i,i<L.W.length->∀ j,j<(L.W.getD i []).length->LQ 100000000 ((L.W.getD i []).getD j 0)
  bl:L.B.length<=1000000
  bf:∀ i,i<L.B.length->LQ 100000000 (L.B.getD i 0)
structure Stp where
  op:Int
  a:Int
  b:Int
  n:Int
  q:Rat
abbrev sX (p:Stp):Value:=.agg #[iV p.op,iV p.a,iV p.b,iV p.n,.bool (af p.q.num),uV (lo (ab p.q.num)),.string (hi (ab p.q.num)),uV (lo (qd p.q)),.string (hi (qd p.q))]
abbrev sC (p:Stp):List Value:=[iV p.op,iV p.a,iV p.b,iV p.n,.bool (af p.q.num),uV (lo (ab p.q.num)),.string (hi (ab p.q.num)),uV (lo (qd p.q)),.string (hi (qd p.q))]
abbrev sW (o a b n:Int)(q:Rat):Value:=.agg #[iV o,iV a,iV b,iV n,.bool (af q.num),uV (lo (ab q.num)),.string (hi (ab q.num)),uV (lo (qd q)),.string (hi (qd q))]
abbrev sG (o a b n:Int)(q:Rat):List Value:=[iV o,iV a,iV b,iV n,.bool (af q.num),uV (lo (ab q.num)),.string (hi (ab q.num)),uV (lo (qd q)),.string (hi (qd q))]
def d9:Stp:=⟨0,0,0,0,0⟩
abbrev gP (l:List Stp)(k:Nat):Stp:=l.getD k d9
def fv (op:Int):Int :=
  if op=1\/op=2 then 0 else if op=7\/op=8\/op=9\/op=10\/op=11 then 1
  else if op=3\/op=4\/op=5\/op=6\/op=12\/op=13 then 2 else -1
theorem aE (op:Int):(fv op=0/\(op=1\/op=2))\/(fv op=1/\(op=7\/op=8\/op=9\/op=10\/op=11))\/(fv op=2/\(op=3\/op=4\/op=5\/op=6\/op=12\/op=13))\/(fv op = -1/\(op<1\/13<op)):=by
 unfold fv;split
 ·exact .inl ⟨rfl,by assumption⟩
 ·split
  ·exact .inr (.inl ⟨rfl,by assumption⟩)
  ·split
   ·exact .inr (.inr (.inl ⟨rfl,by assumption⟩))
   ·exact .inr (.inr (.inr ⟨rfl,by omega⟩))
def oX (i:Nat)(tt:Int)(used:Prop):Prop:=(used->0<=tt/\tt<i)/\(¬used->tt=0)
def jE (inp:Int)(i:Nat)(s:Stp):Prop :=
  0<=fv s.op/\oX i s.a (0<fv s.op)/\oX i s.b (1<fv s.op)/\(s.op≠1->s.q.num=0) /\
  (s.op=2->0<=s.n/\s.n<inp)/\(s.op=8 -> -12<=s.n/\s.n<=12)/\(s.op≠2->s.op≠8->s.n=0)
instance (i:Nat) (tt:Int) (u:Prop) [Decidable u]:Decidable (oX i tt u):=by unfold oX;infer_instance
instance (inp:Int) (i:Nat) (s:Stp):Decidable (jE inp i s):=by unfold jE;infer_instance
def At (n:Nat)(os:List Int):Prop:=∀ i,i<os.length->0<=os.getD i 0/\os.getD i 0<n
instance (n:Nat) (os:List Int):Decidable (At n os):=by unfold At;infer_instance
structure RSt where
  op:Int
  a:Int
  b:Int
  n:Int
  t:RT
def Ki:RSt:=⟨0,0,0,0,fz⟩
structure OSt where
  op:Int
  a:Int
  b:Int
  n:Int
  q:Rat
  has:Bool
def Cc:OSt:=⟨0,0,0,0,0,false⟩
def oy (o:OSt):Nat:=if o.has then o.q.den else 0
def OSt.stp (o:OSt):Stp:=⟨o.op,o.a,o.b,o.n,o.q⟩
abbrev gO (s:List OSt)(k:Nat):OSt:=s.getD k Cc
abbrev mO (s:List OSt):List Stp:=s.map OSt.stp
theorem CC {o:OSt}:0<(lim (oy o)).length↔o.has=true:=by
 rw[bR];unfold oy;have:=o.q.den_pos;cases o.has<;>simp;omega
theorem CK {o:OSt}(h:o.has=true):oy o=o.q.den:=by unfold oy;rw[h];rfl
structure RS1 (h:Hp) (t:RSt) (o:OSt):Prop where
  op:t.op=o.op
  a:t.a=o.a
  b:t.b=o.b
  n:t.n=o.n
  q:RP h (tU t.t) o.q.num (oy o)
  z:o.has=false->o.q=0
structure RSs (h:Hp) (ts:List RSt) (os:List OSt):Prop where
  len:ts.length=os.length
  at_:∀ i,i<os.length->RS1 h (ts.getD i Ki) (os.getD i Cc)
structure OSm (o:OSt):Prop where
  op : -1000<=o.op/\o.op<=1000
  a : -1000<=o.a/\o.a<=1000
  b : -1000<=o.b/\o.b<=1000
  n : -1000<=o.n/\o.n<=1000
  q:LQ 1 o.q
def Ks (os:List OSt):Prop:=∀ i,i<os.length->OSm (os.getD i Cc)
structure LayLen (L:Lay):Prop where
  rl:L.W.length<=1000000
  rls:∀ i,i<L.W.length->(L.W.getD i []).length<=1000000
  bl:L.B.length<=1000000
structure Mat (W:List (List Rat)) (r c:Nat):Prop where
  rows:W.length=r
  rpos:0<r
  cpos:0<c
  row:∀ i,i<r->(W.getD i []).length=c
structure Net3 (ls:List Lay) (d:Nat->Nat):Prop where
  len:1<=ls.length/\ls.length<=4
  first:d 0<=20
  lay:∀ i,i<ls.length->Mat (ls.getD i jg).W (d (i+1)) (d i)/\(ls.getD i jg).B.length=d (i+1)/\d (i+1)<=12/\((ls.getD i jg).k=1\/(ls.getD i jg).k=2\/(ls.getD i jg).k=3)
theorem pK (u:Rat):0<((1:Int):Rat)+cI u:=by
 have h:(0:Rat)<=cI u:=by rw[<-Rat.num_nonneg,qG];omega
 have h1:(0:Rat)<((1:Int):Rat):=by decide
 grind
theorem mK (u:Rat):(((1:Int):Rat)+cI u).num≠0:=by
 have:=pK u;intro e;have e2:((1:Int):Rat)+cI u=0:=by rw[<-NT];exact e
 rw[e2] at this;exact absurd this kD
def Lu (k:Int)(u:Rat):Rat:=if k=2 then maxR u 0 else if k=3 then u/(((1:Int):Rat)+cI u) else u
def Kv (L:Lay)(x:List Rat):List Rat:=(List.range L.W.length).map fun i=>Lu L.k (fc (L.W.getD i []) x x.length+L.B.getD i 0)
def Dr (ls:List Lay)(xs:List Rat):Nat->List Rat
  | 0=>xs
  | k+1=>Kv (ls.getD k jg) (Dr ls xs k)
abbrev gD (ls:List Lay)(xs:List Rat)(k r:Nat):Rat:=fc ((ls.getD k jg).W.getD r []) (Dr ls xs k) (Dr ls xs k).length
abbrev gS (ls:List Lay)(xs:List Rat)(k r:Nat):Rat:=gD ls xs k r+((ls.getD k jg).B).getD r 0
structure NetB (ls:List Lay) (xs:List Rat):Prop where
  w:∀ k i j,LQ 1000000 (((ls.getD k jg).W.getD i []).getD j 0)
  b:∀ k i,LQ 1000000 ((ls.getD k jg).B.getD i 0)
  x:∀ k,k<=ls.length->∀ j,LQ 1000000 ((Dr ls xs k).getD j 0)
theorem RQ.eq {h:Hp}{v:Value}{p q:Rat}(x:RQ h v p)(e:p=q):RQ h v q:=by subst e;exact x
theorem mU {n:Nat}:∀ j,(As n (0:Rat)).getD j 0=0:=fun j=>by
 rw[LH,List.getElem?_replicate];split<;>rfl
structure LaySz (L:Lay):Prop where
  rl:L.W.length<=8
  rls:∀ i,(L.W.getD i []).length<=8
  bl:L.B.length<=8
  w:∀ i j,LQ 1 ((L.W.getD i []).getD j 0)
  b:∀ i,LQ 1 (L.B.getD i 0)
  b4:L.B.length<=4
  w4:(L.W.getD 0 []).length<=4
theorem jd {k:Nat}(h:1<=k):LQ k 0:=(LQ.lit (z:=0) kD).mono h
theorem eo {α:Type}{l:List α}{n i:Nat}{d x:α}(h:n<l.length):(l.set n x).getD i d=if i=n then x else l.getD i d:=by
 split
 ·rename_i e;subst e;simp[h]
 ·rename_i e;rw[LH,u9 (Ne.symm e),<-LH]
structure LayS4 (L:Lay):Prop where
  rl:L.W.length<=4
  rls:∀ i,(L.W.getD i []).length<=4
  bl:L.B.length<=4
  w:∀ i j,LQ 1 ((L.W.getD i []).getD j 0)
  b:∀ i,LQ 1 (L.B.getD i 0)
theorem ct {α:Type}{l:List α}{i:Nat}{d:α}(h:l.length<=i):l.getD i d=d:=by rw[LH,tv h];rfl
def cc (a:Rat):Nat->Rat
  | 0=>((1:Int):Rat)
  | k+1=>cc a k*a
theorem iW {a:Rat}(h:a≠0):∀ k,cc a k≠0
 | 0=>by show ((1:Int):Rat)≠0;decide
 | k+1=>by show cc a k*a≠0;have:=iW h k;grind
def fk (a:Rat)(n:Int):Rat:=if 0<=n then cc a n.natAbs else ((1:Int):Rat)/cc a n.natAbs
def np (a b:Rat):Rat:=if b<a then b else a
def kT (op n:Int)(q a b:Rat):Rat :=
  if op=1 then q else if op=3 then a+b else if op=4 then a-b else if op=5 then a*b else if op=6 then a/b else if op=7 then -a
  else if op=8 then fk a n else if op=9 then cI a else if op=10 then maxR a 0 else if op=11 then a/(cI a+((1:Int):Rat)) else if op=12 then maxR a b else np a b
def rC (op n:Int)(a b:Rat):Prop:=(op=6->b≠0)/\(op=8->n<0->a≠0)
instance (op n:Int) (a b:Rat):Decidable (rC op n a b):=by unfold rC;infer_instance
def xD (op:Int)(a b:Rat):Prop:=(op=9\/op=10)/\a=0\/(op=12\/op=13)/\a=b
instance (op:Int) (a b:Rat):Decidable (xD op a b):=by unfold xD;infer_instance
def Bo (op n:Int)(a b:Rat):Rat :=
  if op=3 then ((1:Int):Rat) else if op=4 then ((1:Int):Rat) else if op=5 then b else if op=6 then ((1:Int):Rat)/b else if op=7 then -((1:Int):Rat)
  else if op=8 then (if n=0 then 0 else fk a (n-1)*((n:Int):Rat)) else if op=9 then ((a.num.sign:Int):Rat) else if op=10 then ((max a.num.sign 0:Int):Rat)
  else if op=11 then (((1:Int):Rat)/(((1:Int):Rat)+cI a))*(((1:Int):Rat)/(((1:Int):Rat)+cI a))
  else if op=12 then (if b<a then ((1:Int):Rat) else 0) else if op=13 then (if b<a then 0 else ((1:Int):Rat)) else 0
def BB (op:Int)(a b:Rat):Rat :=
  if op=3 then ((1:Int):Rat) else if op=4 then -((1:Int):Rat) else if op=5 then a else if op=6 then -(a*(((1:Int):Rat)/b)*(((1:Int):Rat)/b))
  else if op=12 then (if b<a then 0 else ((1:Int):Rat)) else if op=13 then (if b<a then ((1:Int):Rat) else 0) else 0
theorem ij (z:Int) : -1<=z.sign/\z.sign<=1:=by
 rcases Nl z 0 with h|h|h
 ·rw[Nm h];decide
 ·rw[h];decide
 ·rw[Np h];decide
theorem Fw {a:Rat}(h:a≠0):a.num≠0:=fun e=>h (by rw[<-NT];exact e)
theorem ja {a:Rat}{K:Nat}(h:LQ K a):∀ k,LQ (k*K+1) (cc a k)
 | 0=>LQ.mono (k:=1) (LQ.lit (z:=1) kD) oM
 | k+1=>((ja h k).mul h).mono (by rw[Nat.add_mul];omega)
theorem hJ {a b:Rat}:dg a b=0↔a=b:=by
 constructor
 ·intro h
  have h1:¬a<b:=fun x=>by have:=i4.2 x;omega
  have c:¬b<a:=fun x=>by have:=jc.2 x;omega
  grind
 ·intro h;subst h
  have h1:¬dg a a<0:=fun x=>by have:=i4.1 x;grind
  have c:¬dg a a>0:=fun x=>by have:=jc.1 x;grind
  omega
def J5 (op n:Int)(q a b:Rat):Rat:=if rC op n a b then kT op n q a b else 0
theorem iI {a b:List Rat}(h:a.length=b.length)(hv:∀ j,a.getD j 0=b.getD j 0):a=b:=by
 refine NY h (fun i h1 c=>?_);have:=hv i
 simpa [h1,c] using this
theorem H8 (op:Int)(w:World)(h:Hp)(g:G w h):CV 93 #[iV op] w h (iV (fv op)):=by
 have a:=sS g;refine go Tryz.func93 [(0,iV op)] rfl (aa a ac (ah (aa a ac (aY (cQ (ax ?_))))));cases d:((op:Int) == (1:Int))
 .
  have p:=aj d;refine lB 5 d (lL a ac (ag (kQ ?_)));cases j:((op:Int) == (2:Int))
  .
   have u:=aj j;refine lB 6 j (lL a ac (ag (cQ (ax ?_))));cases f:((op:Int) == (7:Int))
   .
    have x:=aj f;refine lB 8 f (lL a ac (ag (ax ?_)));cases o:((op:Int) == (8:Int))
    .
     have y:=aj o;refine lB 9 o (lL a ac (ag (ax ?_)));cases c:((op:Int) == (9:Int))
     .
      have B:=aj c;refine lB 10 c (lL a ac (ag (ax ?_)));cases b:((op:Int) == (10:Int))
      .
       have D:=aj b;refine lB 11 b (lL a ac (ag (kQ ?_)));cases e:((op:Int) == (11:Int))
       .
        have z:=aj e;refine lB 12 e (lL a ac (ag (cQ (ax ?_))));cases l:((op:Int) == (3:Int))
        .
         have F:=aj l;refine lB 14 l (lL a ac (ag (ax ?_)));cases i:((op:Int) == (4:Int))
         .
          have C:=aj i;refine lB 15 i (lL a ac (ag (ax ?_)));cases za:((op:Int) == (5:Int))
          .
           have J:=aj za;refine lB 16 za (lL a ac (ag (ax ?_)));cases zb:((op:Int) == (6:Int))
           .
            have M:=aj zb;refine lB 17 zb (lL a ac (ag (ax ?_)));cases H:((op:Int) == (12:Int))
            .
             have L:=aj H;refine lB 18 H (lL a ac (ag (kQ ?_)));cases I:((op:Int) == (13:Int))
             .
              have K:=aj I;exact lB 19 I (lL a ac (ag (cK (aa a ac (ae a [] (iV (-1)) (congrArg (Value.int .i64) (by have:=aE op;omega)))))))
             have K:=eq_of_beq I;exact lB 19 I (lL a ac (ak (aa a ac (ae a [] (iV 2) (congrArg (Value.int .i64) (by have:=aE op;omega))))))
            have L:=eq_of_beq H;exact lB 18 H (lL a ac (ak (cK (co (aa a ac (ae a [] (iV 2) (congrArg (Value.int .i64) (by have:=aE op;omega))))))))
           have M:=eq_of_beq zb;exact lB 17 zb (lL a ac (ak (cK (co (aa a ac (ae a [] (iV 2) (congrArg (Value.int .i64) (by have:=aE op;omega))))))))
          have J:=eq_of_beq za;exact lB 16 za (lL a ac (ak (cK (co (aa a ac (ae a [] (iV 2) (congrArg (Value.int .i64) (by have:=aE op;omega))))))))
         have C:=eq_of_beq i;exact lB 15 i (lL a ac (ak (cK (co (aa a ac (ae a [] (iV 2) (congrArg (Value.int .i64) (by have:=aE op;omega))))))))
        have F:=eq_of_beq l;exact lB 14 l (lL a ac (ak (cK (co (aa a ac (ae a [] (iV 2) (congrArg (Value.int .i64) (by have:=aE op;omega))))))))
       have z:=eq_of_beq e;exact lB 12 e (lL a ac (ak (aa a ac (ae a [] (iV 1) (congrArg (Value.int .i64) (by have:=aE op;omega))))))
      have D:=eq_of_beq b;exact lB 11 b (lL a ac (ak (cK (co (aa a ac (ae a [] (iV 1) (congrArg (Value.int .i64) (by have:=aE op;omega))))))))
     have B:=eq_of_beq c;exact lB 10 c (lL a ac (ak (cK (co (aa a ac (ae a [] (iV 1) (congrArg (Value.int .i64) (by have:=aE op;omega))))))))
    have y:=eq_of_beq o;exact lB 9 o (lL a ac (ak (cK (co (aa a ac (ae a [] (iV 1) (congrArg (Value.int .i64) (by have:=aE op;omega))))))))
   have x:=eq_of_beq f;exact lB 8 f (lL a ac (ak (cK (co (aa a ac (ae a [] (iV 1) (congrArg (Value.int .i64) (by have:=aE op;omega))))))))
  have u:=eq_of_beq j;exact lB 6 j (lL a ac (ak (aa a ac (ae a [] (iV 0) (congrArg (Value.int .i64) (by have:=aE op;omega))))))
 have p:=eq_of_beq d;exact lB 5 d (lL a ac (ak (cK (co (aa a ac (ae a [] (iV 0) (congrArg (Value.int .i64) (by have:=aE op;omega))))))))
end Go.Proofs.YtnphimgdpdiekaaGreatDoor
