/- Laws and contracts that the card of this claim stands on, part 4. No condition of ours. -/
import Derived.Test.YtnflfcbfifhpaaaGreatDoorPz0
import Derived.Test.YtnflfcbfifhpaaaGreatDoorPz1
import Derived.Test.YtnflfcbfifhpaaaGreatDoorPz2
set_option maxRecDepth 100000
set_option maxHeartbeats 4000000
open Go.IntKind renaming wrap → JJ
open Go.Value renaming int → Lp
open Int renaming divExact_eq_ediv → LP, dvd_refl → LM, dvd_trans → LJ, emod_lt_of_pos → Mc, emod_nonneg → Mb, lt_or_le → Md, lt_trichotomy → LB, mul_ediv_cancel_left → Lz, mul_ne_zero → L8, mul_neg_of_neg_of_pos → L3, mul_pos → L4, natAbs_add_le → L0, natAbs_dvd → LL, natAbs_mul → Lx, natAbs_natCast → Ly, natAbs_neg → L1, natCast_dvd_natCast → LK, sign_eq_neg_one_of_neg → LC, sign_eq_one_of_pos → LD, tmod_eq_emod_of_nonneg → Me
open List renaming drop_eq_nil_of_le → KY, drop_zero → y9, flatMap_cons → y7, getD_eq_getElem?_getD → Kl, length → K0, length_drop → Kx, length_set → KP, length_take → J4, mem_cons → g7, mem_cons_of_mem → Lg, mem_cons_self → Lf, mem_singleton → pa, replicate → Am, set_set → Lc, take_length → zy, take_of_length_le → Ks, take_set → Lq, toArray → Lu
open Nat renaming add_sub_cancel → KH, add_zero → y8, divExact_eq_div → LR, div_le_self → JT, eq_of_mul_eq_mul_left → Lm, eq_zero_or_pos → HA, gcd → La, gcd_comm → Lb, gcd_dvd_left → LH, gcd_dvd_right → LI, gcd_le_left → Lt, gcd_le_right → LZ, gcd_mul_left → Lo, gcd_pos_of_pos_right → LF, gcd_zero_right → Lw, le_mul_of_pos_left → Ls, le_of_lt → Lv, le_total → Ln, le_trans → ez, lt_of_le_of_lt → JS, lt_or_ge → ep, min_eq_left → J5, min_eq_right → Kw, mod_lt → A4, mul_assoc → J2, mul_comm → JZ, mul_div_cancel_left → Lr, mul_zero → J6, pow_add → Kd, pow_mul → Kg, pow_succ → JY, pow_zero → K8, two_pow_pos → Ka, zero_add → z6, zero_le → K7, zero_mod → KQ
open Rat renaming add → LN, den_intCast → LW, intCast_natCast → L7, maybeNormalize → LO, mkRat_eq_div → L6, mkRat_self → L9, mul → LS, neg_den → LY, neg_num → LX, normalize_eq_mkRat → L5, num_eq_zero → Ma, num_intCast → LU, sub_eq_add_neg → L2
namespace Go.Proofs.YtnflfcbfifhpaaaGreatDoor
open Go.RowKit
open Go.RowKit Go.Shelf
theorem Tz.uniq {n k m c f:Nat}(a:Tz n k m)(b:Tz n c f):k=c∧m=f:=by
 obtain ⟨i,u⟩:=a;obtain ⟨j,o⟩:=b
 have key:∀ {k m c f:Nat},2^k*m=2^c*f→m%2=1→c≤k:=fun {k m c f} e l=>by
  rcases ep k c with h|h
  ·exfalso
   obtain ⟨d,rfl⟩:∃ d,c=k+(d+1):=⟨c-k-1,by omega⟩;rw[Kd,J2] at e
   have e2:=Lm (Ka k) e;rw[JY,JZ (2^d) 2,J2] at e2
   omega
  ·exact h
 have h1:=key (i.symm.trans j) u;have x:=key (j.symm.trans i) o;have p:k=c:=by omega
 subst p;exact ⟨rfl,Lm (Ka k) (i.symm.trans j)⟩
theorem nH {x y:Nat}(b:y%2=1):La (2*x) y=La x y:=by
 have a:Nat.Coprime 2 y:=by
  unfold Nat.Coprime
  rw[Nat.gcd_rec,b];rfl
 exact a.gcd_mul_left_cancel x
theorem ff {x y:Nat}(a:y%2=1):∀ k,La (2^k*x) y=La x y
  | 0=>by simp
  | k+1=>by
    rw[JY,JZ (2^k) 2,J2,nH a];exact ff a k
theorem vq {x y k l m n:Nat}(a:Tz x k m)(b:Tz y l n):La x y=La m n*2^min k l:=by
 obtain ⟨f,e⟩:=a;obtain ⟨c,i⟩:=b;subst f c
 rcases Ln k l with h|h
 ·rw[J5 h]
  obtain ⟨d,rfl⟩:∃ d,l=k+d:=⟨l-k,by omega⟩;rw[Kd,J2,Lo,Lb m,ff e,Lb n,JZ]
 ·rw[Kw h]
  obtain ⟨d,rfl⟩:∃ d,k=l+d:=⟨k-l,by omega⟩;rw[Kd,J2,Lo,ff i,JZ]
theorem rv {x y k m:Nat}(a:y<x)(b:y%2=1)(t:Tz (x-y) k m):La m y=La x y:=by
 rw[←ff b k,←t.1];have e:=Nat.gcd_add_self_left (m:=y) (n:=x-y);rw[show x-y+y=x by omega] at e
 exact e.symm
theorem SlO.win {α:Type}{f:α→List Value}{d:α}{h:Hp}{b:Nat}{l:List α}(hf:∀ x,(f x).length=1)(i:Seg h b 0 (l.flatMap f))(o n:Nat):SlO 1 f d h (some ⟨b,o,none⟩) ((l.drop o).take n):=by
  have a:=i.part o ((l.drop o).take n).length;rw[z6] at a
  have e:∀ (l:List α) (o n:Nat),((l.flatMap f).drop o).take ((l.drop o).take n).length=((l.drop o).take n).flatMap f:=by
    have e1:∀ (l:List α),(l.flatMap f).length=l.length:=fun l=>by
      induction l with
      | nil=>rfl
      | cons x l ih=>rw[y7,List.length_append,hf,ih,List.length_cons];omega
    have j:∀ (l:List α) (o:Nat),(l.flatMap f).drop o=(l.drop o).flatMap f:=fun l=>by
      induction l with
      | nil=>intro o;simp
      | cons x l ih =>
        intro o;cases o with
        | zero=>rfl
        | succ o =>
          rw[y7,List.drop_append,hf,KY (by rw[hf];omega),List.nil_append,List.drop_succ_cons,KH];exact ih o
    have c:∀ (l:List α) (n:Nat),(l.flatMap f).take n=(l.take n).flatMap f:=fun l=>by
      induction l with
      | nil=>intro n;simp
      | cons x l ih =>
        intro n;cases n with
        | zero=>rfl
        | succ n =>
          rw[y7,List.take_append,hf,Ks (by rw[hf];omega),List.take_succ_cons,y7,KH,ih n]
    intro l o n;rw[j,c,J4]
    congr 1
    rcases Ln n (l.drop o).length with h|h
    · rw[J5 h]
    · rw[Kw h,zy,Ks h]
  rw[e] at a
  exact SlO.of_flat hf a
def Tab (h:Hp):Prop:=Seg h 4 0 (Lib.deBruijn64tab.map fun k=>Lp .u8 ((k:Nat):Int))
theorem Tab.gw {h h':Hp}(t:Tab h)(u:Gw h h'):Tab h':=Seg.gw t u
theorem SS.aB {w0 w:World}{h0 h:Hp}{B:List Bx}{R:List Rw}{F:List (Hp→Prop)}(s:SS w0 h0 w h B R F)(p:Tab h):SS w0 h0 w h B R ((fun h=>Tab h)::F):=s.add (K:=fun h=>Tab h) p
theorem Tab.at {h:Hp}(t:Tab h){k i:Nat}(e:i<64∧Lib.deBruijn64tab.getD i 0=k):Seg h 4 i [.int .u8 ((k:Nat):Int)]:=by
 have a:=Seg.part t i 1;obtain ⟨hi,rfl⟩:=e;rw[z6] at a
 have b:i<Lib.deBruijn64tab.length:=by show i<64;exact hi
 have e1:((Lib.deBruijn64tab.map fun k=>Lp .u8 ((k:Nat):Int)).drop i).take 1=[.int .u8 ((Lib.deBruijn64tab.getD i 0:Nat):Int)]:=by
  rw[List.drop_eq_getElem_cons (by simpa using b)]
  simp[b]
 rw[e1] at a
 exact a
theorem H7 {s:Result Next}{b z:Nat}{w:World}(h:s=.ok (.value (.pointer (some ⟨b,0+z*1,none⟩))) w):s=.ok (.value (.pointer (some ⟨b,z,none⟩))) w:=by rw[h,Nat.mul_one,z6]
theorem uB {l:List Nat}(a:Wd l)(c:l.length≤(wds (aD l)).length):wds (aD l)=l:=by
 have e:=nC a;have h1:(wds (aD l)).length=min (tl l l.length) l.length:=by rw[e,J4]
 have b:=gu l l.length;rw[e,Ks oM]
theorem Ik {l:List Nat}(a:Wd l):aD l<256^(8*l.length):=by
 have:=bP a;rw[Kg];exact this
theorem Ew {a b:Nat}(h:wds a=wds b):a=b:=by rw[←ay a,←ay b,h]
theorem vW {l:List Nat}{i:Nat}(h:i<l.length)(h0:l.getD i 0=0){n:Nat}(inv:n=18446744073709551616^i*aj 18446744073709551616 (l.drop i)):n=18446744073709551616^(i+1)*aj 18446744073709551616 (l.drop (i+1)):=by
 rw[inv,fk _ h,h0,z6,JY,J2]
theorem GV (x:Nat)(o:x≠0)(B:x<18446744073709551616)(w:World)(h:Hp)(g:G w h)(D:Tab h):CV 226 #[mV x] w h (nV (Lib.ctz 64 x)):=by
 have d:=((sS g).aB D);obtain ⟨l,F⟩:=Lib.lowest_bit 64 x o B;have c:=Lib.deBruijn64_at _ F
 generalize Lib.ctz 64 x=k at *
 generalize hp:2^k=p at *
 obtain ⟨y,hy⟩:∃ y,p*285870213051353865%18446744073709551616=y:=⟨_,rfl⟩;rw[hy] at c
 obtain ⟨z,hz⟩:∃ z,y/288230376151711744=z:=⟨_,rfl⟩;rw[hz] at c
 refine go Tryz.func226 [(0,mV x)] rfl (aa d [.v 2 (iV 0)] (ah (aa d [.m 3 0] ?_)));have j:((x:Int) == (0:Int))=false:=bJ oM;have C:=ae j;refine lB 4 j (af (cK (aa d [.m 5 0,.m 6 0] (lV 7 (mV (18446744073709551616-x)) ?_ (hr:=rU ((0-(x:Int))) kR (by rw[IntKind.wrap_u64];omega))))));refine lV 8 (mV p) ?_ (hr:=aK (n:=bits .and .u64 (x:Int) ((18446744073709551616-x:Nat):Int)) kR (by rw[bits_and_u64_nat _ _ B oM];exact congrArg _ l));refine lV 9 (mV y) ?_ (hr:=rU (((p:Int)*285870213051353865)) kR ((ja p 285870213051353865).trans (congrArg _ hy)));refine lV 10 (mV z) ?_ (hr:=aK (fV (t:=34) (u:=140) (x:=.tmp 9) (y:=.const (uV 58)) (ky:=.u64) (a:=y) (n:=58) kR kR kR oM _) (congrArg _ (by rw[show (2:Nat)^58=288230376151711744 from rfl];exact hz)));refine lV 11 (qP 4 z) ?_ (hr:=H7 (HM (t:=264) (e:=5) (x:=.global 4) (ix:=.tmp 10) (b:=4) (off:=0) (sz:=1) (len:=64) (kk:=.u64) (i:=(z:Int)) z kR kR kR kR kR rfl c.1 _));refine lH 12 (.int .u8 (k:Int)) d (Tab.at d.f.1 c) (lV 13 (nV k) ?_ (hr:=rS ((k:Int)) kR (iY oM oM)));exact lL d [.m 2 13] (ac d [] (nV k) rfl)
theorem qI (A:Option Addr)(c:Nat)(l:List Nat)(n:Nat)(K:l.length=n)(y:Wd l)(O:0<aD l)(Q:l.length≤1000000000)(w:World)(h:Hp)(g:G w h)(D:Tab h)(C:SlO 1 am 0 h A l):CR 195 #[.slice A n c] w h (fun v _=>∃ k m:Nat,v=nV k∧Tz (aD l) k m∧k/64<l.length):=by
 have a:=(((sS g).aB D).aS C);refine go Tryz.func195 [(0,qS A n c)] rfl (aa a [.v 2 (iV 0)] (aI (lL a [.v 3 (iV 0)] (ah (kZ ?_)))));refine bH _ (CG.loop (fun p Γ F=>∃ (i:Nat) (d:Hp),p=l.length-i∧Γ=[(0,qS A n c),(2,iV 0),(3,nV i)]∧SS w h F d [] [] [fun d=>SlO 1 am 0 d A l,fun d=>Tab d]∧i≤l.length∧aD l=18446744073709551616^i*aj 18446744073709551616 (l.drop i)) _ ⟨0,h,rfl,rfl,a.to _ _,K7 _,(by show aj _ _=_;rw[K8,Nat.one_mul,y9])⟩ ?_);rintro _ _ w1 ⟨i,z,H,rfl,a,hi,inv⟩;have o:i<l.length:=by rcases ep i l.length with d|d;exact d;rw[KY d] at inv;simp[aj] at inv;omega
 refine cQ (aa a [.m 4 0,.m 5 3] (lX 6 A n c 1 (i:Nat) i ((a.f.1).ok oM) ?_));refine lH 7 (mV (l.getD i 0)) a ((a.f.1).el i oM) ?_;cases b:(((l.getD i 0:Nat):Int) == (0:Int))
 ·
  have j:=ae b;refine lB 8 b (af (CG.exit ?_))
  show CG _ _ _ _ _ _ _ _
  refine aa a [.m 11 3] (lI 12 (64*(i:Nat)) ?_);refine lL a [.m 13 0,.m 14 3] (lX 15 A n c 1 (i:Nat) i ((a.f.1).ok oM) ?_);refine lH 16 (mV (l.getD i 0)) a ((a.f.1).el i oM) (ag 17 a (GV (l.getD i 0) oM (y.get i) _ _ a.g a.f.2.1) (fun M I a=>?_));obtain ⟨L,u,e⟩:=EN (x:=l.getD i 0) oM (y.get i);exact lI 18 ((64*(i:Nat))+(Lib.ctz 64 (l.getD i 0):Nat)) (lL a [.m 2 18] (ac a [] (iV ((64*(i:Nat))+(Lib.ctz 64 (l.getD i 0):Nat))) (⟨_,_,rfl,Tz.word (by rw[inv,fk _ o]) u e,by omega⟩)))
 have j:=ML b;refine lB 8 b (ak (cK (kZ (kQ (lL a [.m 9 3] (bD 10 ((i:Nat)+1) (i+1) ?_))))));refine lL a [.m 3 10] (lD ?_);intro J B;refine ⟨_,_,?_,⟨i+1,z,rfl,rfl,a.to _ _,oM,(vW o oM inv)⟩,B.to _ kR⟩
 omega
theorem C7 (A:Option Addr)(c:Nat)(l:List Nat)(n:Nat)(C:l.length=n)(H:l.length≤1099511627776)(D:l.length≤c)(w:World)(h:Hp)(g:G w h)(x:SlO 1 am 0 h A l):CV 227 #[.slice A n c] w h (.slice A (tl l n) c):=by
 have a:=((sS g).aS x);refine go Tryz.func227 [(0,qS A n c)] rfl (aa a [.v 2 (sZ)] (ah (kZ ?_)));refine bH _ (CG.loop (fun k Γ y=>∃ (m:Nat) (o:Hp),k=m∧Γ=[(2,sZ),(0,qS A m c)]∧SS w h y o [] [] [fun o=>SlO 1 am 0 o A l]∧m≤n∧tl l n=tl l m) _ ⟨n,h,rfl,rfl,a.to _ _,nR _,rfl⟩ ?_);rintro _ _ w1 ⟨m,p,z,rfl,a,F,j⟩;refine cQ (aa a [.m 3 0,.v 4 (nV m)] ?_);cases b:(decide ((0:Int)<(m:Int)))
 ·
  have e:=oF b;refine lB 5 b (lL a [.m 6 5] (lG 7 ?_));refine lG 8 (lG 9 (lG 10 (lG 11 (lG 12 (lG 13 (lL a [.v 14 qF] (af (CG.exit ?_))))))))
  show CG _ _ _ _ _ _ _ _
  exact aa a [.m 20 0,.m 2 20] (ac a [] (qS A m c) (by rw[j,mQ oM]))
 have e:=oT b;refine lB 5 b (lL a [.m 6 5,.m 7 0,.m 8 0,.v 9 (nV m)] (bD 10 ((m:Nat)-1) (m-1) ?_));refine lX 11 A m c 1 (m-1:Nat) (m-1) ((a.f.1).ok oM) (lH 12 (mV (l.getD (m-1) 0)) a ((a.f.1).el (m-1) oM) ?_);cases d:(((l.getD (m-1) 0:Nat):Int) == (0:Int))
 ·
  have i:=ae d;refine lB 13 d (lL a [.v 14 qF] (af (CG.exit ?_)))
  show CG _ _ _ _ _ _ _ _
  exact aa a [.m 20 0,.m 2 20] (ac a [] (qS A m c) (by rw[j,mQ oM]))
 have i:=ML d;refine lB 13 d (lL a [.v 14 qT] (ak (cK (kZ (kQ (lL a [.m 15 0,.m 16 0,.v 17 (nV m)] (bD 18 ((m:Nat)-1) (m-1) ?_)))))));refine lT 19 A m c 1 (m-1:Nat) (m-1) (lL a [.m 0 19] (lD ?_));intro B u;refine ⟨_,_,?_,⟨m-1,p,rfl,rfl,a.to _ _,oM,(by rw[j];exact wO oM oM)⟩,u.to _ kR⟩
 omega
theorem vK (A:Option Addr)(c:Nat)(D:Option Addr)(d:Nat)(x y n e:Nat)(W:(wds x).length=n)(O:(wds y).length=e)(H:(wds x).length≤1000000000)(Q:(wds y).length≤1000000000)(w:World)(h:Hp)(g:G w h)(M:SlO 1 am 0 h A (wds x))(J:SlO 1 am 0 h D (wds y)):CV 197 #[.slice A n c,.slice D e d] w h (iV (cD x y)):=by
 have a:=(((sS g).aS M).aS J);refine go Tryz.func197 [(0,qS A n c),(1,qS D e d)] rfl (aa a [.v 4 (iV 0)] (ah (aa a [.m 6 0,.v 7 (nV n),.m 8 1,.v 9 (nV e)] ?_)));cases o:((n:Int) != (e:Int))
 ·
  have z:=aJ o;refine lB 10 o (af (cK (cQ (aa a [.m 16 0,.v 17 (nV n)] (lV 18 (iV ((n:Int)-1)) ?_ (hr:=rS (((n:Nat)-1)) kR ((fX oM oM).trans oM)))))));refine lL a [.m 5 18] (a8 ?_);refine bH _ (CG.loop (fun C Γ S=>∃ (m:Nat) (p:Hp),C=m∧Γ=[(0,qS A n c),(1,qS D e d),(5,iV ((m:Int)-1))]∧SS w h S p [] [] [fun p=>SlO 1 am 0 p D (wds y),fun p=>SlO 1 am 0 p A (wds x)]∧m≤n∧(wds x).length=(wds y).length∧(wds x).drop m=(wds y).drop m) _ ⟨n,h,rfl,rfl,a.to _ _,nR _,oM,(by rw[KY oM,KY oM])⟩ ?_);rintro _ _ w2 ⟨m,Y,I,rfl,a,Z,b,i⟩;refine cQ (aa a [.m 19 5] ?_);cases l:(decide ((0:Int)≤((m:Int)-1:Int)))
  ·
   have B:=oF l;refine lB 20 l (af (CG.exit ?_))
   show CG _ _ _ _ _ _ _ _
   exact aa a [.v 4 (iV 0)] (ac a [] (iV 0) (by rw[ij (Ew (by rw[show m=0 by omega] at i;simpa using i))]))
  have B:=oT l;refine lB 20 l (ak (cK (cQ (kZ (cQ (cR 9 [] mixed a ar ?_))))));refine eV 0 23 (qS A n c) (eV 1 24 (iV ((m:Int)-1)) (eX 2 25 A n c 1 ((m:Int)-1) (m-1) ((a.f.2.1).ok oM) (eH 3 26 (mV ((wds x).getD (m-1) 0)) a ((a.f.2.1).el (m-1) oM) (eV 4 27 (qS D e d) (eV 5 28 (iV ((m:Int)-1)) (eX 6 29 D e d 1 ((m:Int)-1) (m-1) ((a.f.1).ok oM) (eH 7 30 (mV ((wds y).getD (m-1) 0)) a ((a.f.1).el (m-1) oM) ?_)))))));cases j:((((wds x).getD (m-1) 0:Nat):Int) != (((wds y).getD (m-1) 0:Nat):Int))
  ·
   have u:=aJ j;refine eB 8 31 j (ck a (fun X U a=>tN (cv (cK (kQ (lL a [.m 21 5] (lV 22 (iV (((m-1:Nat):Int)-1)) ?_ (hr:=rS ((((m:Int)-1)-1)) kR ((fX oM oM).trans oM)))))))));refine lL a [.m 5 22] (lD ?_);intro V L;refine ⟨_,_,?_,⟨m-1,U,rfl,rfl,a.to _ _,oM,b,(eZ (k:=m-1) b oM (by rw[show m-1+1=m by omega];exact i) oM)⟩,L.to _ kR⟩
   omega
  have u:=aW j;refine eB 8 31 j (ck a (fun _ _ a=>tN (ce (cQ (cQ (cR 9 [] mixed a ar ?_))))));refine eV 0 32 (qS A n c) (eV 1 33 (iV ((m:Int)-1)) (eX 2 34 A n c 1 ((m:Int)-1) (m-1) ((a.f.2.1).ok oM) (eH 3 35 (mV ((wds x).getD (m-1) 0)) a ((a.f.2.1).el (m-1) oM) (eV 4 36 (qS D e d) (eV 5 37 (iV ((m:Int)-1)) (eX 6 38 D e d 1 ((m:Int)-1) (m-1) ((a.f.1).ok oM) (eH 7 39 (mV ((wds y).getD (m-1) 0)) a ((a.f.1).el (m-1) oM) ?_)))))));cases za:(decide ((((wds x).getD (m-1) 0:Nat):Int)<(((wds y).getD (m-1) 0:Nat):Int)))
  ·
   have F:=oF za;exact eB 8 40 za (ck a (fun _ _ a=>tN (cv (cK (aa a [.v 4 (iV 1)] (ac a [] (iV 1) (by rw[←kK (k:=m-1) b oM (by rw[show m-1+1=m by omega];exact i) oM,fe oM])))))))
  have F:=oT za;exact eB 8 40 za (ck a (fun _ _ a=>tN (ce (aa a [.v 4 (iV (-1))] (ac a [] (iV (-1)) (by rw[←kK (k:=m-1) b oM (by rw[show m-1+1=m by omega];exact i) oM,dB oM]))))))
 have z:=aW o;refine lB 10 o (ak (cQ (aa a [.m 11 0,.v 12 (nV n),.m 13 1,.v 14 (nV e)] ?_)));cases zb:(decide ((n:Int)<(e:Int)))
 ·
  have K:=oF zb;exact lB 15 zb (af (cK (aa a [.v 4 (iV 1)] (ac a [] (iV 1) (by rw[fe (fS oM)])))))
 have K:=oT zb;exact lB 15 zb (ak (aa a [.v 4 (iV (-1))] (ac a [] (iV (-1)) (by rw[dB (fS oM)]))))
theorem xN (n:Nat)(hn:0<n)(hl:(wds n).length≤1000000000)(w:World)(h:Hp)(g:G w h):CR 194 #[nv n] w h (fun v h1=>Ay h h1 v (wds n)):=by
 have c:=sS g;have hnb:=ma n;have W:=kU n;have hbl:=jD n ((nb n+7)/8);have S:=(ci hn).2.2;refine go Tryz.func194 [(0,nv n)] rfl (av (lA 1 36 (nc n) c (fun O w2 h3 c=>lL c [.v 2 (sZ)] (aI (lL c [.o 6 (nv n) 0 0 2] (lC 7 c (vj n hl _ _ c.g) ?_))))));rintro _ w4 h5 c ⟨p,rfl,hb⟩;replace c:=c.aS hb;refine lL c [.m 3 7] (aI (lL c [.m 8 3,.v 9 (nV ((nb n+7)/8))] (bD 10 ((((nb n+7)/8):Nat)+7) ((((nb n+7)/8):Nat)+7) ?_)));refine lV 11 (nV (((((nb n+7)/8):Nat)+7:Nat)/8)) ?_ (hr:=aK (dl (t:=3) (u:=3) (x:=.tmp 10) (y:=.const (iV 8)) (k:=.i64) (a:=(((((nb n+7)/8):Nat)+7:Nat):Int)) (b:=(8:Int)) kR kR kR oM _) (dh ((((nb n+7)/8):Nat)+7:Nat) 8 oM));refine lK 12 34 (((((nb n+7)/8):Nat)+7:Nat)/8:Nat) 1 8 (uV 0) am 0 c (fun e w7 h8 c=>?_);have F:(Am (((((nb n+7)/8):Nat)+7:Nat)/8:Nat) 0).length=(((((nb n+7)/8):Nat)+7:Nat)/8:Nat):=by simp
 refine lL c [.m 4 12] (ah (aa c [.m 13 3,.v 14 (nV ((nb n+7)/8)),.v 15 (iV 0)] (a8 ?_)));refine bH _ (CG.loop (fun K Γ w_=>∃ (i:Nat) (l:List Nat) (M:Hp),K=((nb n+7)/8)-i∧Γ=[(2,sZ),(3,qS p ((nb n+7)/8) ((nb n+7)/8)),(4,qS (sB e) (((((nb n+7)/8):Nat)+7:Nat)/8:Nat) (((((nb n+7)/8):Nat)+7:Nat)/8:Nat)),(14,nV ((nb n+7)/8)),(15,nV i)]∧SS w h w_ M [⟨e,34,(l).flatMap am⟩,⟨O,36,nc n⟩] [] [fun M=>SlO 1 mq 0 M p (fs n ((nb n+7)/8))]∧i≤((nb n+7)/8)∧l.length=(((nb n+7)/8)+7)/8∧Wd l∧aD l=n%256^i) _ ⟨0,Am (((((nb n+7)/8):Nat)+7:Nat)/8:Nat) 0,h8,rfl,rfl,c.to _ _,K7 _,F,Wd.rep _,(by show aj _ _=_;rw[dk,K8,Nat.mod_one])⟩ ?_);rintro _ _ _ ⟨i,l,_,U,rfl,c,hi,z,L,inv⟩;have Z:=j3 n ((nb n+7)/8) (((nb n+7)/8)-1-i);refine av ?_;cases za:(decide ((i:Int)<((((nb n+7)/8):Nat):Int)))
 ·
  have zb:=oF za;refine lB 16 za (ah (cv (CG.exit ?_)))
  show CG _ _ _ _ _ _ _ _
  refine aa c [.m 39 4,.m 2 39] (lN (kX ?_));have H:i=((nb n+7)/8):=by omega
  have V:aD l=n:=by rw[inv,H];exact Nat.mod_eq_of_lt (vk n)
  have J:l=wds n:=by rw[←V];exact (uB L (by rw[z,V];omega)).symm
  rw[J] at c
  obtain ⟨_,c,j,C,B⟩:=c.pub 0;replace c:=(c.to [⟨O,36,nc n⟩] []).aS (SlO.of_flat (sz:=1) (f:=am) (d:=0) (b:=e) (o:=0) (l:=wds n) (fun _=>rfl) j);exact c.ret [] (qS (sB e) (((((nb n+7)/8):Nat)+7:Nat)/8:Nat) (((((nb n+7)/8):Nat)+7:Nat)/8:Nat)) (⟨e,(by rw[show (((nb n+7)/8)+7)/8=(wds n).length by omega]),C,B,c.f.1⟩)
 have zb:=oT za;refine lB 16 za (ah (ce (cK (cQ (kZ (aa c [.m 17 15,.m 5 17] (lN (cR 19 [] mixed c ar ?_))))))));refine eV 0 18 (qS (sB e) (((((nb n+7)/8):Nat)+7:Nat)/8:Nat) (((((nb n+7)/8):Nat)+7:Nat)/8:Nat)) (eV 1 19 (nV i) (eV 2 20 (nV (i/8)) ?_ (hv:=fun _=>aK (dl (t:=3) (u:=3) (x:=.tmp 19) (y:=.const (iV 8)) (k:=.i64) (a:=(i:Int)) (b:=(8:Int)) kR kR kR oM _) (dh i 8 oM))));refine eX 3 21 (sB e) (((((nb n+7)/8):Nat)+7:Nat)/8:Nat) (((((nb n+7)/8):Nat)+7:Nat)/8:Nat) 1 (i/8:Nat) (i/8) rfl (eQ 4 22 0 l am 1 0 (i/8) (mV ((l).getD (i/8) 0)) c oM (eV 5 23 (qS p ((nb n+7)/8) ((nb n+7)/8)) (eV 6 24 (qS p ((nb n+7)/8) ((nb n+7)/8)) (eV 7 25 (nV ((nb n+7)/8)) (jy 8 26 ((((nb n+7)/8):Nat)-1) ((((nb n+7)/8):Nat)-1) (eV 9 27 (nV i) (jy 10 28 (((((nb n+7)/8):Nat)-1:Nat)-(i:Nat)) (((((nb n+7)/8):Nat)-1:Nat)-i) (eX 11 29 p ((nb n+7)/8) ((nb n+7)/8) 1 (((((nb n+7)/8):Nat)-1:Nat)-i:Nat) (((((nb n+7)/8):Nat)-1:Nat)-i:Nat) ((c.f.1).ok oM) (eH 12 30 (.int .u8 ((fs n ((nb n+7)/8)).getD (((((nb n+7)/8):Nat)-1:Nat)-i:Nat) 0:Nat)) c ((c.f.1).el (((((nb n+7)/8):Nat)-1:Nat)-i:Nat) oM) (eV 13 31 (mV ((fs n ((nb n+7)/8)).getD (((((nb n+7)/8):Nat)-1:Nat)-i:Nat) 0)) ?_ (hv:=fun _=>rU ((((fs n ((nb n+7)/8)).getD (((((nb n+7)/8):Nat)-1:Nat)-i:Nat) 0:Nat):Int)) kR (ba oM oM))))))))))));refine eV 14 32 (nV i) (eV 15 33 (nV (i%8)) ?_ (hv:=fun _=>aK (dU (t:=3) (u:=3) (x:=.tmp 32) (y:=.const (iV 8)) (k:=.i64) (a:=(i:Int)) (b:=(8:Int)) kR kR kR oM _) (cp i 8)));refine jy 16 34 (8*(i%8:Nat)) (8*(i%8)) (eV 17 35 (mV (((fs n ((nb n+7)/8)).getD (((((nb n+7)/8):Nat)-1:Nat)-i:Nat) 0:Nat)*2^(8*(i%8))%18446744073709551616)) ?_ (hv:=fun _=>gf (t:=34) (u:=3) (x:=.tmp 31) (y:=.tmp 34) (ky:=.i64) (a:=((fs n ((nb n+7)/8)).getD (((((nb n+7)/8):Nat)-1:Nat)-i:Nat) 0:Nat)) (n:=(8*(i%8))) kR kR kR _));obtain ⟨Q,I,D⟩:=sK oM inv (show (fs n ((nb n+7)/8)).getD (((nb n+7)/8)-1-i) 0=n/256^i%256 by rw[ie n ((nb n+7)/8) _ oM,show ((nb n+7)/8)-1-(((nb n+7)/8)-1-i)=i by omega]);have Y:=L.get (i/8);refine eV 18 36 (mV (l.getD (i/8) 0+(fs n ((nb n+7)/8)).getD (((nb n+7)/8)-1-i) 0*2^(8*(i%8)))) ?_ (hv:=fun _=>aK (gB (t:=34) (u:=34) (x:=.tmp 22) (y:=.tmp 35) (a:=((l).getD (i/8) 0)) (b:=(((fs n ((nb n+7)/8)).getD (((((nb n+7)/8):Nat)-1:Nat)-i:Nat) 0:Nat)*2^(8*(i%8))%18446744073709551616:Nat)) kR kR kR oM oM _) (by rw[Q]));refine ck c (fun _ zd c=>tX 19 37 (sB e) (((((nb n+7)/8):Nat)+7:Nat)/8:Nat) (((((nb n+7)/8):Nat)+7:Nat)/8:Nat) 1 (i/8:Nat) (i/8) rfl (tW 20 0 l am 1 (i/8) (l.getD (i/8) 0+(fs n ((nb n+7)/8)).getD (((nb n+7)/8)-1-i) 0*2^(8*(i%8)):Nat) c oM (fun _ c=>?_)));have X:((l).set (i/8) (l.getD (i/8) 0+(fs n ((nb n+7)/8)).getD (((nb n+7)/8)-1-i) 0*2^(8*(i%8)):Nat)).length=(((((nb n+7)/8):Nat)+7:Nat)/8:Nat):=by rw[KP];exact z
 replace c:=c.to [⟨e,34,((l).set (i/8) (l.getD (i/8) 0+(fs n ((nb n+7)/8)).getD (((nb n+7)/8)-1-i) 0*2^(8*(i%8)):Nat)).flatMap am⟩,⟨O,36,nc n⟩] [];refine tN (kQ (bD 38 ((i:Nat)+1) (i+1) ?_));refine lL c [.m 15 38] (lD ?_);intro a_ ka;refine ⟨_,_,?_,⟨i+1,(l).set (i/8) (l.getD (i/8) 0+(fs n ((nb n+7)/8)).getD (((nb n+7)/8)-1-i) 0*2^(8*(i%8)):Nat),zd,rfl,rfl,c.to _ _,oM,X,(L.set _ I),D⟩,ka.to _ kR⟩
 omega
theorem BX (A:Option Addr)(c:Nat)(l:List Nat)(n:Nat)(X:l.length=n)(I:Wd l)(hl:l.length≤1000000000)(w:World)(h:Hp)(g:G w h)(Z:SlO 1 am 0 h A l):CV 199 #[.slice A n c] w h (nv (aD l)):=by
 have e:=((sS g).aS Z);refine go Tryz.func199 [(0,qS A n c)] rfl (av (lA 2 36 ([uV 0,eS]) e (fun D w2 h3 e=>aI (lL e [.m 5 0,.v 6 (nV n)] (bD 7 (8*(n:Nat)) (8*n) ?_)))));refine lK 8 5 (8*n) 1 1 (.int .u8 0) mq 0 e (fun B w5 U e=>?_);have K:(Am (8*n) 0).length=(8*n):=by simp
 refine lL e [.m 3 8] (ah (aa e [.m 9 3,.v 10 (nV (8*n)),.v 11 (iV 0)] (a8 ?_)));refine bH _ (CG.loop (fun H Γ w_=>∃ (i:Nat) (z:List Nat) (J:Hp),H=8*n-i∧Γ=[(0,qS A n c),(2,pB D),(3,qS (sB B) (8*n) (8*n)),(10,nV (8*n)),(11,nV i)]∧SS w h w_ J [⟨B,5,(z).flatMap mq⟩,⟨D,36,[uV 0,eS]⟩] [] [fun J=>SlO 1 am 0 J A l]∧i≤8*n∧z.length=8*n∧(∀ j,j<i→z.getD (8*n-1-j) 0=aD l/256^j%256)) _ ⟨0,Am (8*n) 0,U,rfl,rfl,e.to _ _,K7 _,K,(fun j M=>MO M oM)⟩ ?_);rintro _ _ w8 ⟨i,z,h9,S,rfl,e,hi,p,O⟩;have hwi:=I.get (i/8);refine av ?_;cases za:(decide ((i:Int)<(((8*n):Nat):Int)))
 ·
  have zb:=oF za;refine lB 12 za (ah (cv (CG.exit ?_)))
  show CG _ _ _ _ _ _ _ _
  refine aa e [.m 32 3] ?_;have W:i=8*n:=by omega
  have F:z=fs (aD l) (8*n):=pS p (fun j M=>O j oM);rw[F] at e
  obtain ⟨_,e,C,L,Q⟩:=e.pub 0;replace e:=(e.to [⟨D,36,[uV 0,eS]⟩] []).aS (SlO.of_flat (sz:=1) (f:=mq) (d:=0) (b:=B) (o:=0) (l:=fs (aD l) (8*n)) (fun _=>rfl) C);exact ag 33 e (wy (aD l) (8*n) (sB B) (8*n) oM oM (by have:=Ik I;rwa [X] at this) _ _ e.g e.f.1) (fun _ _ e=>lP 0 0 (nc (aD l)) e (fun _ e=>ac e [(0,0,2)] (nv (aD l)) rfl))
 have zb:=oT za;refine lB 12 za (ah (ce (cK (cQ (kZ (aa e [.m 13 11,.m 4 13] (lN (kQ (lL e [.m 14 3,.m 15 3,.v 16 (nV (8*n))] (bD 17 (((8*n):Nat)-1) ((8*n)-1) ?_))))))))));refine lL e [.m 18 4] (bD 19 (((8*n)-1:Nat)-(i:Nat)) (((8*n)-1)-i) ?_);refine lL e [.m 20 0,.m 21 4] (lV 22 (nV (i/8)) ?_ (hr:=aK (dl (t:=3) (u:=3) (x:=.tmp 21) (y:=.const (iV 8)) (k:=.i64) (a:=(i:Int)) (b:=(8:Int)) kR kR kR oM _) (dh i 8 oM)));refine lX 23 A n c 1 (i/8:Nat) (i/8) ((e.f.1).ok oM) (lH 24 (mV (l.getD (i/8) 0)) e ((e.f.1).el (i/8) oM) (lL e [.m 25 4] (lV 26 (nV (i%8)) ?_ (hr:=aK (dU (t:=3) (u:=3) (x:=.tmp 25) (y:=.const (iV 8)) (k:=.i64) (a:=(i:Int)) (b:=(8:Int)) kR kR kR oM _) (cp i 8)))));refine bD 27 (8*(i%8:Nat)) (8*(i%8)) (lV 28 (mV ((l.getD (i/8) 0)/2^(8*(i%8)))) ?_ (hr:=fV (t:=34) (u:=3) (x:=.tmp 24) (y:=.tmp 27) (ky:=.i64) (a:=(l.getD (i/8) 0)) (n:=(8*(i%8))) kR kR kR oM _));refine lV 29 (.int .u8 (l.getD (i/8) 0/2^(8*(i%8))%256:Nat)) ?_ (hr:=aK (n:=JJ .u8 ((l.getD (i/8) 0/2^(8*(i%8)):Nat):Int)) kR (AV _));refine lX 30 (sB B) (8*n) (8*n) 1 (((8*n)-1)-i:Nat) (((8*n)-1)-i:Nat) rfl (lW 0 z mq 1 (((8*n)-1)-i:Nat) (l.getD (i/8) 0/2^(8*(i%8))%256:Nat) e oM (fun _ e=>?_));have V:((z).set (((8*n)-1)-i:Nat) (l.getD (i/8) 0/2^(8*(i%8))%256:Nat)).length=(8*n):=by rw[KP];exact p
 replace e:=e.to [⟨B,5,((z).set (((8*n)-1)-i:Nat) (l.getD (i/8) 0/2^(8*(i%8))%256:Nat)).flatMap mq⟩,⟨D,36,[uV 0,eS]⟩] [];refine lN (kQ (bD 31 ((i:Nat)+1) (i+1) ?_));refine lL e [.m 11 31] (lD ?_);intro a_ Y;refine ⟨_,_,?_,⟨i+1,(z).set (((8*n)-1)-i:Nat) (l.getD (i/8) 0/2^(8*(i%8))%256:Nat),h9,rfl,rfl,e.to _ _,oM,V,(gc p oM O (oX I i))⟩,Y.to _ kR⟩
 omega
def win (l:List Nat)(o n:Nat):List Nat:=(l.drop o).take n
theorem bO {l:List Nat}{o n:Nat}(h:o+n≤l.length):(win l o n).length=n:=by unfold win;rw[J4,Kx];omega
theorem rq {l:List Nat}{o n j:Nat}(h:j<n):(win l o n).getD j 0=l.getD (o+j) 0:=by unfold win;rw[iy h,bG]
theorem kC {l:List Nat}{o n i x:Nat}(hi:i<n):win (l.set (o+i) x) o n=(win l o n).set i x:=by
 unfold win
 rw[List.drop_set,MM oM,Lq,show o+i-o=i by omega]
theorem xu {l:List Nat}{o n q:Nat}:(win l o n).drop q=win l (o+q) (n-q):=by
 unfold win;rw[List.drop_take,List.drop_drop]
theorem pD {l:List Nat}{o n m:Nat}(h:m≤n):(win l o n).take m=win l o m:=by
 unfold win;rw[List.take_take,J5 h]
theorem sd (l:List Nat)(n:Nat)(h:l.length≤n):win l 0 n=l:=by unfold win;rw[y9,Ks h]
theorem Wd.win {l:List Nat}(h:Wd l)(o n:Nat):Wd (win l o n):=Dg.take (Dg.drop h o) n
theorem sE {Z W:List Nat}{i p d a:Nat}(hi:i<Z.length)(inv:2^p*aj 18446744073709551616 (Z.take i)+a=aj 18446744073709551616 (W.take i)+18446744073709551616^i*(W.getD i 0%2^p))
  (h:2^p*d+W.getD i 0%2^p=W.getD i 0+18446744073709551616*(W.getD (i+1) 0%2^p)) :
  2^p*aj 18446744073709551616 ((Z.set i d).take (i+1))+a=aj 18446744073709551616 (W.take (i+1))+18446744073709551616^(i+1)*(W.getD (i+1) 0%2^p):=by
 have e1:=aR 18446744073709551616 (Z.set i d) i;have e2:(Z.set i d).take i=Z.take i:=by rw[Lq,List.set_eq_of_length_le];rw[J4];omega
 rw[e2,bF hi,MN rfl] at e1
 have e:=aR 18446744073709551616 W i;have c:=congrArg (18446744073709551616^i * ·) h
 simp only[Nat.mul_add] at c
 rw[e1,e,JY,Nat.mul_add];have b:2^p*(18446744073709551616^i*d)=18446744073709551616^i*(2^p*d):=by ac_rfl
 have f:18446744073709551616^i*18446744073709551616*(W.getD (i+1) 0%2^p)=18446744073709551616^i*(18446744073709551616*(W.getD (i+1) 0%2^p)):=by ac_rfl
 rw[b,f]
 omega
theorem uG {X:List Nat}(d:Wd X){k m:Nat}(t:Tz (aD X) k m)(e:k/64<X.length):aD (X.drop (k/64))=2^(k%64)*m∧(X.drop (k/64)).getD 0 0%2^(k%64)=0:=by
 have h1:aD (X.drop (k/64))=2^(k%64)*m:=by
  rw[m6 d oM,t.1,wY k,J2,Lr _ (Nat.pow_pos kD)]
 refine ⟨h1,?_⟩
 have c:aD (X.drop (k/64))=(X.drop (k/64)).getD 0 0+18446744073709551616*aj 18446744073709551616 ((X.drop (k/64)).drop 1):=by
  have:=fk 18446744073709551616 (l:=X.drop (k/64)) (k:=0) (by rw[Kx];omega)
  rwa [y9] at this
 have b:(18446744073709551616:Nat)=2^(k%64)*2^(64-k%64):=by rw[←Kd,show k%64+(64-k%64)=64 by omega]
 rw[h1] at c
 have a:(2^(k%64)*m)%2^(k%64)=0:=Nat.mul_mod_right _ _;rw[c] at a
 conv at a=>lhs;rw[b]
 rw[J2,Nat.add_mul_mod_self_left] at a
 exact a
theorem Ed {Z W:List Nat}{p m:Nat}(a:W.length≤Z.length)(inv:2^p*aj 18446744073709551616 (Z.take Z.length)+0=aj 18446744073709551616 (W.take Z.length)+18446744073709551616^Z.length*(W.getD Z.length 0%2^p))(e:aD W=2^p*m):aD Z=m:=by
 rw[zy,Ks a,bM a,KQ,J6,y8,y8] at inv
 have e2:aj 18446744073709551616 W=2^p*m:=e;rw[e2] at inv
 exact Lm (Ka p) inv
theorem oy {l X:List Nat}{q i x N:Nat}(b:q+i<l.length)(h:∀ j,i≤j→j<N→l.getD (q+j) 0=X.getD j 0):∀ j,i+1≤j→j<N→(l.set (q+i) x).getD (q+j) 0=X.getD j 0:=fun j h1 a=>by
 rw[bF b,MM oM];exact h j oM a
theorem qV (rb:Nat)(l0:List Nat)(o n c x:Nat)(hx:0<x)(hl0:l0.length≤1000000000)(C:o+n≤l0.length)(hnc:n≤c)(F:Wd l0)(I:win l0 o n=wds x)(w:World)(h:Hp)(g:G w h)(ho:Own w rb 34 (l0.flatMap am))(hj:h[rb]?=some junk)(tb:Tab h):Calls Tryz.prog 196 #[.slice (some ⟨rb,o,none⟩) n c] w (ef rb w h fun v w' _=>∃ z:List Nat,∃ o' n' c':Nat,v=.slice (some ⟨rb,o',none⟩) n' c'∧z.length=l0.length∧Wd z∧o'+n'≤z.length∧n'≤c'∧(∃ k m:Nat,Tz x k m∧win z o' n'=wds m)∧Own w' rb 34 (z.flatMap am)):=by
 have B:UpM [rb] w h w h:=UpM.refl g;obtain ⟨wz,hz,e⟩:=SS.at_ g ho hj;have bb:l0.length=l0.length:=rfl;replace e:=(e.aB tb);refine go Tryz.func196 [(0,qS (some ⟨rb,o,none⟩) n c)] rfl (aa e [.v 2 (sZ)] (aI (lL e [.m 6 0] (Av 7 0 e (fun _ g_ f_ K=>qI (some ⟨rb,o,none⟩) c (win l0 o n) n (bO C) (F.win _ _) (by rw[I,ay];exact hx) (by rw[bO C];omega) _ _ g_ (f_.1) (SlO.win (f:=am) (d:=0) (b:=rb) (l:=l0) (fun _=>rfl) K o n)) ?_))));rintro _ w1 h2 u3 e ⟨k,m,rfl,M,hkn⟩;replace B:=B.trans (u3.m _);rw[bO C] at hkn
 have hX:=F.win o n;obtain ⟨J,L⟩:=uG hX M (by rw[bO C];omega);rw[xu] at J L
 obtain ⟨X,hXd⟩:∃ X,X=win l0 (o+k/64) (n-k/64):=⟨_,rfl⟩;rw[←hXd] at J L
 have hXl:X.length=n-k/64:=by rw[hXd];exact bO oM
 have hXW:Wd X:=by rw[hXd];exact F.win _ _
 have hXg:∀ j,j<n-k/64→X.getD j 0=l0.getD (o+k/64+j) 0:=fun j hj=>by rw[hXd];exact rq hj
 refine lL e [.m 3 7] (aI (lL e [.m 8 0,.m 9 3] (lV 10 (nV (k/64)) ?_ (hr:=aK (dl (t:=3) (u:=3) (x:=.tmp 9) (y:=.const (iV 64)) (k:=.i64) (a:=(k:Int)) (b:=(64:Int)) kR kR kR oM _) (dh k 64 oM)))));refine Jv 11 rb o n c 1 (k/64:Nat) (k/64) (o+(k/64)) (lL e [.m 0 11] (aI (lL e [.m 12 3] (lV 13 (nV (k%64)) ?_ (hr:=aK (dU (t:=3) (u:=3) (x:=.tmp 12) (y:=.const (iV 64)) (k:=.i64) (a:=(k:Int)) (b:=(64:Int)) kR kR kR oM _) (cp k 64))))));refine lL e [.m 4 13] (ah (aa e [.m 14 0,.v 15 (nV (n-(k/64))),.v 16 (iV 0)] (a8 ?_)));refine bH _ (CG.loop (fun μ_ Γ w_=>∃ (i:Nat) (l:List Nat) (h_:Hp),μ_=(n-k/64)-i∧Γ=[(0,qS (some ⟨rb,(o+(k/64)),none⟩) (n-(k/64)) (c-(k/64))),(2,sZ),(4,nV (k%64)),(15,nV (n-(k/64))),(16,nV i)]∧SS wz hz w_ h_ [⟨rb,34,(l).flatMap am⟩] [] [fun h_=>Tab h_]∧i≤n-k/64∧l.length=l0.length∧Wd l∧2^(k%64)*aj 18446744073709551616 ((win l (o+k/64) (n-k/64)).take i)+0=aj 18446744073709551616 (X.take i)+18446744073709551616^i*(X.getD i 0%2^(k%64))∧(∀ j,i≤j→j<n-k/64→l.getD (o+k/64+j) 0=X.getD j 0)∧UpM [rb] w h w_ h_) _ ⟨0,l0,h2,rfl,rfl,e.to _ _,K7 _,rfl,F,(by rw[L];simp[aj]),(fun j _ hj=>(hXg j hj).symm),B⟩ ?_);rintro _ _ w4 ⟨i,l,h5,hm6,rfl,e,hi,Y,O,inv,H,B⟩;refine av ?_;cases D:(decide ((i:Int)<((n-(k/64):Nat):Int)))
 ·
  have U:=oF D;refine lB 17 D (ah (cv (CG.exit ?_)))
  show CG _ _ _ _ _ _ _ _
  refine aa e [.m 46 0] (Av 47 0 e (fun _ g_ f_ K=>C7 (some ⟨rb,(o+k/64),none⟩) (c-(k/64)) (win l (o+k/64) (n-k/64)) (n-k/64) (bO oM) (by rw[bO oM];omega) (by rw[bO oM];omega) _ _ g_ (SlO.win (f:=am) (d:=0) (b:=rb) (l:=l) (fun _=>rfl) K (o+k/64) (n-k/64))) ?_);rintro _ w8 h9 u10 e rfl;replace B:=B.trans (u10.m _);refine lL e [.m 2 47] (lN (kX ?_));have hiN:i=n-k/64:=by omega
  have Q:(win l (o+k/64) (n-k/64)).length=n-k/64:=bO oM;have hE:=Ed (Z:=win l (o+k/64) (n-k/64)) oM (by rw[Q,←hiN];rw[←hiN] at inv;exact inv) J;have hZW:Wd (win l (o+k/64) (n-k/64)):=O.win _ _;have W:=nC hZW;rw[hE,Q] at W
  have htl:=gu (win l (o+k/64) (n-k/64)) (n-k/64);exact e.retM B [] (qS (some ⟨rb,(o+k/64),none⟩) (tl (win l (o+k/64) (n-k/64)) (n-k/64)) (c-(k/64))) ⟨l,(o+k/64),_,_,rfl,Y,O,by omega,by omega,⟨k,m,by rw[I,ay] at M;exact M,by rw[W];exact (pD htl).symm⟩,e.own 0⟩
 have U:=oT D;refine lB 17 D (ah (ce (cK (cQ (kZ (aa e [.m 18 16,.m 5 18] (aI (lL e [.m 19 0,.m 20 5] (F2 21 rb (o+(k/64)) (n-(k/64)) (c-(k/64)) 1 (i:Nat) i ((o+(k/64))+i) ?_)))))))));refine lQ 22 0 l am 1 0 ((o+(k/64))+i) (mV ((l).getD ((o+(k/64))+i) 0)) e oM (lL e [.m 23 4] ?_);have hXi:X.getD i 0=l.getD (o+k/64+i) 0:=(H i (nR _) oM).symm;have hxi:=O.get (o+k/64+i);have hdv:=JT (l.getD (o+k/64+i) 0) (2^(k%64));refine lV 24 (mV (((l).getD ((o+(k/64))+i) 0:Nat)/2^(k%64))) ?_ (hr:=fV (t:=34) (u:=3) (x:=.tmp 22) (y:=.tmp 23) (ky:=.i64) (a:=((l).getD ((o+(k/64))+i) 0:Nat)) (n:=(k%64)) kR kR kR oM _);refine F2 25 rb (o+(k/64)) (n-(k/64)) (c-(k/64)) 1 (i:Nat) i ((o+(k/64))+i) (HY 0 l am 1 ((o+(k/64))+i) (((l).getD ((o+(k/64))+i) 0:Nat)/2^(k%64):Nat) e oM (fun _ pu e=>?_));replace B:=B.put pu (pa.2 rfl) e.g;have zb:((l).set ((o+(k/64))+i) (((l).getD ((o+(k/64))+i) 0:Nat)/2^(k%64):Nat)).length=l0.length:=by rw[KP];exact Y
 replace e:=e.to [⟨rb,34,((l).set ((o+(k/64))+i) (((l).getD ((o+(k/64))+i) 0:Nat)/2^(k%64):Nat)).flatMap am⟩] [];refine aI (lL e [.m 26 5] (bD 27 ((i:Nat)+1) (i+1) ?_));refine lL e [.m 28 0,.v 29 (nV (n-(k/64)))] ?_;cases za:(decide (((i+1:Nat):Int)<((n-(k/64):Nat):Int)))
 ·
  have zc:=oF za;refine lB 30 za (af (cK (kQ (bD 45 ((i:Nat)+1) (i+1) ?_))));refine lL e [.m 16 45] (lD ?_);intro a_ ka;refine ⟨_,_,?_,⟨i+1,(l).set ((o+(k/64))+i) (((l).getD ((o+(k/64))+i) 0:Nat)/2^(k%64):Nat),h5,rfl,rfl,e.to _ _,oM,zb,(O.set _ oM),(by rw[kC oM];exact sE (by rw[bO oM];omega) inv (by rw[hXi,bM (l:=X) (show X.length≤i+1 by omega),KQ,J6,y8];exact Nat.div_add_mod _ _)),(oy oM H),B⟩,ka.to _ kR⟩
  omega
 have zc:=oT za;refine lB 30 za (ak (xD ⟨[],none⟩ 13 mixed ?_));replace B:=B.trans ((Up.drew (Up.refl e.g)).m _);replace e:=e.drew;refine aV 0 31 (qS (some ⟨rb,(o+(k/64)),none⟩) (n-(k/64)) (c-(k/64))) (aV 1 32 (nV i) (Jb 2 33 rb (o+(k/64)) (n-(k/64)) (c-(k/64)) 1 (i:Nat) i ((o+(k/64))+i) (aQ 3 34 0 ((l).set ((o+(k/64))+i) (((l).getD ((o+(k/64))+i) 0:Nat)/2^(k%64):Nat)) am 1 0 ((o+(k/64))+i) (mV (((l).set ((o+(k/64))+i) (((l).getD ((o+(k/64))+i) 0:Nat)/2^(k%64):Nat)).getD ((o+(k/64))+i) 0)) e oM (aV 4 35 (qS (some ⟨rb,(o+(k/64)),none⟩) (n-(k/64)) (c-(k/64))) (aV 5 36 (nV i) (aV 6 37 (nV (i+1)) ?_ (hv:=fun _=>rS (((i:Nat)+1)) kR ((fX oM oM).trans oM))))))));refine Jb 7 38 rb (o+(k/64)) (n-(k/64)) (c-(k/64)) 1 (i+1:Nat) (i+1) ((o+(k/64))+(i+1)) (aQ 8 39 0 ((l).set ((o+(k/64))+i) (((l).getD ((o+(k/64))+i) 0:Nat)/2^(k%64):Nat)) am 1 0 ((o+(k/64))+(i+1)) (mV (((l).set ((o+(k/64))+i) (((l).getD ((o+(k/64))+i) 0:Nat)/2^(k%64):Nat)).getD ((o+(k/64))+(i+1)) 0)) e oM (aV 9 40 (nV (k%64)) (aV 10 41 (nV (64-(k%64))) ?_ (hv:=fun _=>rS ((64-(k%64:Nat))) kR ((fX oM oM).trans oM)))));refine aV 11 42 (mV ((((l).set ((o+(k/64))+i) (((l).getD ((o+(k/64))+i) 0:Nat)/2^(k%64):Nat)).getD ((o+(k/64))+(i+1)) 0:Nat)*2^(64-(k%64))%18446744073709551616)) ?_ (hv:=fun _=>gf (t:=34) (u:=3) (x:=.tmp 39) (y:=.tmp 41) (ky:=.i64) (a:=(((l).set ((o+(k/64))+i) (((l).getD ((o+(k/64))+i) 0:Nat)/2^(k%64):Nat)).getD ((o+(k/64))+(i+1)) 0:Nat)) (n:=(64-(k%64))) kR kR kR _);have hXn:X.getD (i+1) 0=l.getD (o+k/64+(i+1)) 0:=(H (i+1) oM oM).symm;obtain ⟨hS1,hS2,hS3⟩:=pL (x:=l.getD (o+k/64+i) 0) (y:=l.getD (o+k/64+(i+1)) 0) (p:=k%64) oM hxi;have S:=bF (l:=l) (k:=o+k/64+i) (j:=o+k/64+i) (x:=l.getD (o+k/64+i) 0/2^(k%64)) oM;rw[MN rfl] at S
 have V:=bF (l:=l) (k:=o+k/64+i) (j:=o+k/64+(i+1)) (x:=l.getD (o+k/64+i) 0/2^(k%64)) oM;rw[MM oM] at V
 refine aV 12 43 (mV (l.getD (o+k/64+i) 0/2^(k%64)+l.getD (o+k/64+(i+1)) 0*2^(64-k%64)%18446744073709551616)) ?_ (hv:=fun _=>aK (gB (t:=34) (u:=34) (x:=.tmp 34) (y:=.tmp 42) (a:=(((l).set ((o+(k/64))+i) (((l).getD ((o+(k/64))+i) 0:Nat)/2^(k%64):Nat)).getD ((o+(k/64))+i) 0:Nat)) (b:=((((l).set ((o+(k/64))+i) (((l).getD ((o+(k/64))+i) 0:Nat)/2^(k%64):Nat)).getD ((o+(k/64))+(i+1)) 0:Nat)*2^(64-(k%64))%18446744073709551616:Nat)) kR kR kR oM oM _) (by rw[S,V,hS1]));refine Jo 13 44 rb (o+(k/64)) (n-(k/64)) (c-(k/64)) 1 (i:Nat) i ((o+(k/64))+i) (Jn 14 0 ((l).set ((o+(k/64))+i) (((l).getD ((o+(k/64))+i) 0:Nat)/2^(k%64):Nat)) am 1 ((o+(k/64))+i) (l.getD (o+k/64+i) 0/2^(k%64)+l.getD (o+k/64+(i+1)) 0*2^(64-k%64)%18446744073709551616:Nat) e oM (fun _ pu e=>?_));replace B:=B.put pu (pa.2 rfl) e.g;have zd:(((l).set ((o+(k/64))+i) (((l).getD ((o+(k/64))+i) 0:Nat)/2^(k%64):Nat)).set ((o+(k/64))+i) (l.getD (o+k/64+i) 0/2^(k%64)+l.getD (o+k/64+(i+1)) 0*2^(64-k%64)%18446744073709551616:Nat)).length=l0.length:=by rw[KP];exact zb
 replace e:=e.to [⟨rb,34,(((l).set ((o+(k/64))+i) (((l).getD ((o+(k/64))+i) 0:Nat)/2^(k%64):Nat)).set ((o+(k/64))+i) (l.getD (o+k/64+i) 0/2^(k%64)+l.getD (o+k/64+(i+1)) 0*2^(64-k%64)%18446744073709551616:Nat)).flatMap am⟩] [];refine tN (kQ (bD 45 ((i:Nat)+1) (i+1) ?_));refine lL e [.m 16 45] (lD ?_);intro a_ ka;refine ⟨_,_,?_,⟨i+1,((l).set ((o+(k/64))+i) (((l).getD ((o+(k/64))+i) 0:Nat)/2^(k%64):Nat)).set ((o+(k/64))+i) (l.getD (o+k/64+i) 0/2^(k%64)+l.getD (o+k/64+(i+1)) 0*2^(64-k%64)%18446744073709551616:Nat),h5,rfl,rfl,e.to _ _,oM,zd,((O.set _ oM).set _ hS2),(by rw[Lc,kC oM];exact sE (by rw[bO oM];omega) inv (by rw[hXi,hXn];exact hS3)),(by rw[Lc];exact oy oM H),B⟩,ka.to _ kR⟩
 omega
theorem Gc (rb:Nat)(l0:List Nat)(o n c x:Nat)(hl0:l0.length≤1000000000)(Y:o+n≤l0.length)(hnc:n≤c)(hW0:Wd l0)(C:win l0 o n=wds x)(D:Option Addr)(d y m:Nat)(hm:(wds y).length=m)(hmd:m≤d)(hyx:y≤x)(w:World)(h:Hp)(g:G w h)(ho:Own w rb 34 (l0.flatMap am))(hj:h[rb]?=some junk)(hD:SlO 1 am 0 h D (wds y)):Calls Tryz.prog 198 #[.slice (some ⟨rb,o,none⟩) n c,.slice D m d] w (ef rb w h fun v w' _=>∃ z:List Nat,∃ o' X c':Nat,v=.slice (some ⟨rb,o',none⟩) X c'∧z.length=l0.length∧Wd z∧o'+X≤z.length∧X≤c'∧win z o' X=wds (x-y)∧Own w' rb 34 (z.flatMap am)):=by
 have e:UpM [rb] w h w h:=UpM.refl g;obtain ⟨wz,hz,a⟩:=SS.at_ g ho hj;have bd:l0.length=l0.length:=rfl;replace a:=a.aS hD;have hwn:n=(wds x).length:=by rw[←C,bO Y]
 have hlm:=cF hyx;refine go Tryz.func198 [(0,qS (some ⟨rb,o,none⟩) n c),(1,qS D m d)] rfl (aa a [.v 4 (sZ)] (aI (lL a [.v 5 (uV 0)] (ah (aa a [.m 8 0,.v 9 (nV n),.v 10 (iV 0)] (a8 ?_))))));refine bH _ (CG.loop (fun μ_ Γ w_=>∃ (i:Nat) (l:List Nat) (I:Nat) (W:Hp),μ_=n-i∧Γ=[(0,qS (some ⟨rb,o,none⟩) n c),(1,qS D m d),(4,sZ),(9,nV n),(10,nV i),(5,mV I)]∧SS wz hz w_ W [⟨rb,34,(l).flatMap am⟩] [] [fun W=>SlO 1 am 0 W D (wds y)]∧i≤n∧l.length=l0.length∧Wd l∧I≤1∧aj 18446744073709551616 (win l o n)+aj 18446744073709551616 ((wds y).take i)=x+18446744073709551616^i*I∧UpM [rb] w h w_ W) _ ⟨0,l0,0,h,rfl,rfl,a.to _ _,K7 _,rfl,hW0,oM,(by have hx_:aj 18446744073709551616 (wds x)=x:=ay x;rw[C,hx_];simp[aj]),e⟩ ?_);rintro _ _ w1 ⟨i,l,I,h2,hm3,rfl,a,hi,F,J,hbo,inv,e⟩;have hlk:=J.get (o+i);have hyk:=(Wd.wds y).get i;have U:=rq (l:=l) (o:=o) (n:=n) (j:=i);refine av ?_;cases u:(decide ((i:Int)<(n:Int)))
 ·
  have V:=oF u;refine lB 11 u (ah (cv (CG.exit ?_)))
  show CG _ _ _ _ _ _ _ _
  refine aa a [.m 35 0] (Av 36 0 a (fun _ g_ f_ sg_=>C7 (some ⟨rb,o,none⟩) c (win l o n) n (bO oM) (by rw[bO oM];omega) (by rw[bO oM];omega) _ _ g_ (SlO.win (f:=am) (d:=0) (b:=rb) (l:=l) (fun _=>rfl) sg_ o n)) ?_);rintro _ w5 h6 u7 a rfl;replace e:=e.trans (u7.m _);refine lL a [.m 4 36] (lN (kX ?_));have hiN:i=n:=by omega
  have K:(win l o n).length=n:=bO oM;rw[Ks (show (wds y).length≤i by omega),hiN] at inv
  have Q:Wd (win l o n):=J.win _ _;have hE:aD (win l o n)=x-y:=nE Q (by rw[K];have hb_:aj 18446744073709551616 (wds y)=y:=ay y;rw[hb_] at inv;exact inv) oM hbo;have M:=nC Q;rw[hE,K] at M
  have htl:=gu (win l o n) n;exact a.retM e [] (qS (some ⟨rb,o,none⟩) (tl (win l o n) n) c) ⟨l,o,_,_,rfl,F,J,by omega,by omega,(by rw[M];exact (pD htl).symm),a.own 0⟩
 have V:=oT u;refine lB 11 u (ah (ce (cK (cQ (kZ (aa a [.m 12 10,.m 6 12] (aI (lL a [.v 7 (uV 0)] (ah (aa a [.m 13 6,.m 14 1,.v 15 (nV m)] ?_))))))))));cases B:(decide ((i:Int)<(m:Int)))
 ·
  have O:=oF B;refine lB 16 B (af (cK (kQ (lL a [.m 22 0,.m 23 6,.m 24 0,.m 25 6] (F2 26 rb o n c 1 (i:Nat) i (o+i) ?_)))));refine lQ 27 0 l am 1 0 (o+i) (mV ((l).getD (o+i) 0)) a oM (lL a [.m 28 7,.m 29 5] ?_);obtain ⟨H,za,bn,bm,bl,L⟩:=iN ((l).getD (o+i) 0) 0 I wM wM oM;refine lV 30 (.tuple #[mV H,mV za]) ?_ (hr:=cJ kR (L _));refine lL a [.m 21 30,.v 31 (mV H),.v 32 (mV za)] (F2 33 rb o n c 1 (i:Nat) i (o+i) ?_);refine HY 0 l am 1 (o+i) H a oM (fun _ pu a=>?_);replace e:=e.put pu (pa.2 rfl) a.g;have zc:((l).set (o+i) H).length=l0.length:=by rw[KP];exact F
  replace a:=a.to [⟨rb,34,((l).set (o+i) H).flatMap am⟩] [];refine lL a [.m 5 32] (lN (kQ (bD 34 ((i:Nat)+1) (i+1) ?_)));refine lL a [.m 10 34] (lD ?_);intro a_ Z;refine ⟨_,_,?_,⟨i+1,(l).set (o+i) H,za,h2,rfl,rfl,a.to _ _,oM,zc,(J.set _ oM),oM,(by rw[kC oM];exact gJ (by rw[bO oM];omega) inv (by rw[U oM];first|omega|(have hy0:=bM (l:=wds y) (k:=i) oM;omega))),e⟩,Z.to _ kR⟩
  omega
 have O:=oT B;refine lB 16 B (ak (kQ (lL a [.m 17 1,.m 18 6] (lX 19 D m d 1 (i:Nat) i ((a.f.1).ok oM) ?_))));refine lH 20 (mV ((wds y).getD i 0)) a ((a.f.1).el i oM) (lL a [.m 7 20] (lN (kQ (lL a [.m 22 0,.m 23 6,.m 24 0,.m 25 6] (F2 26 rb o n c 1 (i:Nat) i (o+i) ?_)))));refine lQ 27 0 l am 1 0 (o+i) (mV ((l).getD (o+i) 0)) a oM (lL a [.m 28 7,.m 29 5] ?_);obtain ⟨p,zb,bq,bb,bk,S⟩:=iN ((l).getD (o+i) 0) ((wds y).getD i 0) I wM wM oM;refine lV 30 (.tuple #[mV p,mV zb]) ?_ (hr:=cJ kR (S _));refine lL a [.m 21 30,.v 31 (mV p),.v 32 (mV zb)] (F2 33 rb o n c 1 (i:Nat) i (o+i) ?_);refine HY 0 l am 1 (o+i) p a oM (fun _ pu a=>?_);replace e:=e.put pu (pa.2 rfl) a.g;have zd:((l).set (o+i) p).length=l0.length:=by rw[KP];exact F
 replace a:=a.to [⟨rb,34,((l).set (o+i) p).flatMap am⟩] [];refine lL a [.m 5 32] (lN (kQ (bD 34 ((i:Nat)+1) (i+1) ?_)));refine lL a [.m 10 34] (lD ?_);intro a_ Z;refine ⟨_,_,?_,⟨i+1,(l).set (o+i) p,zb,h2,rfl,rfl,a.to _ _,oM,zd,(J.set _ oM),oM,(by rw[kC oM];exact gJ (by rw[bO oM];omega) inv (by rw[U oM];first|omega|(have hy0:=bM (l:=wds y) (k:=i) oM;omega))),e⟩,Z.to _ kR⟩
 omega
theorem Tz.le {n k m:Nat}(t:Tz n k m):m≤n:=by rw[t.1];exact Ls m (Ka k)
theorem gi (a b:Nat):(cD a b=0∧a=b)∨(cD a b = -1∧a<b)∨(cD a b=1∧b<a):=by
 rcases Nat.lt_trichotomy a b with h|h|h
 ·exact .inr (.inl ⟨dB h,h⟩)
 ·exact .inl ⟨ij h,h⟩
 ·exact .inr (.inr ⟨fe h,h⟩)
theorem tE (A:Option Addr)(c:Nat)(D:Option Addr)(d:Nat)(x y n a:Nat)(e b:List Nat)(j:e=wds x)(i:b=wds y)(k:e.length=n)(f:b.length=a)(l:n≤1000000000)(u:a≤1000000000)(w:World)(h:Hp)(g:G w h)(p:SlO 1 am 0 h A e)(o:SlO 1 am 0 h D b):CV 197 #[.slice A n c,.slice D a d] w h (iV (cD x y)):=by
 subst j i;exact vK A c D d x y n a k f oM oM w h g p o
theorem Hk (A:Option Addr)(c:Nat)(l:List Nat)(n x:Nat)(b:l=wds x)(a:l.length=n)(e:n≤1000000000)(w:World)(h:Hp)(g:G w h)(d:SlO 1 am 0 h A l):CV 199 #[.slice A n c] w h (nv x):=by
 subst b;have:=BX A c (wds x) n a (Wd.wds x) oM w h g d
 rwa [ay] at this
theorem uL (rb:Nat)(l0:List Nat)(o n c x:Nat)(p:l0.length≤1000000000)(l:o+n≤l0.length)(k:n≤c)(e:Wd l0)(a:win l0 o n=wds x)(D:Option Addr)(d y m:Nat)(i:List Nat)(u:i=wds y)(H:i.length=m)(f:m≤d)(j:y≤x)(w:World)(h:Hp)(g:G w h)(F:Own w rb 34 (l0.flatMap am))(B:h[rb]?=some junk)(C:SlO 1 am 0 h D i):Calls Tryz.prog 198 #[.slice (some ⟨rb,o,none⟩) n c,.slice D m d] w (ef rb w h fun v w' _=>∃ z:List Nat,∃ o' b c':Nat,v=.slice (some ⟨rb,o',none⟩) b c'∧z.length=l0.length∧Wd z∧o'+b≤z.length∧b≤c'∧win z o' b=wds (x-y)∧Own w' rb 34 (z.flatMap am)):=by
 subst u;exact Gc rb l0 o n c x p l k e a D d y m H f j w h g F B C
theorem rZ (x y:Nat)(hx:0<x)(hy:0<y)(hlx:(wds x).length≤1000000000)(hly:(wds y).length≤1000000000)(w:World)(h:Hp)(g:G w h)(tb:Tab h):CV 174 #[nv x,nv y] w h (nv (La x y)):=by
 have c:=((sS g).aB tb);have hpx:=hx;have hpy:=hy;refine go Tryz.func174 [(0,nv x),(1,nv y)] rfl (av (lA 2 36 (nc x) c (fun b1 w2 h3 c=>lA 3 36 (nc y) c (fun Y w5 h6 c=>lA 4 36 ([uV 0,eS]) c (fun U w8 h9 c=>ah ?_)))));obtain ⟨K_,hK_⟩:∃ K_,K_=w8.heap.size:=⟨_,rfl⟩;have hn:U<K_:=by rw[hK_];exact eF c 0
 have b6:Y<K_:=by rw[hK_];exact eF c 1
 have c8:b1<K_:=by rw[hK_];exact eF c 2
 refine xD ⟨[],some (K_,[])⟩ 0 mixed ?_;have hw:=c.g.size;replace c:=c.drew;have V:=Nat.le_of_eq hK_;refine zO 0 10 [(2,0,2)] (nv x) rfl V c (fun p hp=>by obtain rfl:=pa.1 hp;exact c8) (zO 2 12 [(1,0,2)] (nv y) rfl V c (fun p hp=>by obtain rfl:=pa.1 hp;exact b6) (qx 1 11 (xN x oM oM _ _ c.g) rfl V ?_));rintro _ _ _ u12 V ⟨C,rfl,f2,dx,h2⟩;obtain ⟨_,c,-,-⟩:=c.take u12 f2 dx;replace c:=c.to [⟨C,34,(wds x).flatMap am⟩,⟨U,36,[uV 0,eS]⟩,⟨Y,36,nc y⟩,⟨b1,36,nc x⟩] [];refine qx 3 13 (xN y oM oM _ _ c.g) rfl V ?_;rintro _ _ _ u16 V ⟨K,rfl,fp,d2,h8⟩;obtain ⟨_,c,-,-⟩:=c.take u16 fp d2;replace c:=c.to [⟨K,34,(wds y).flatMap am⟩,⟨C,34,(wds x).flatMap am⟩,⟨U,36,[uV 0,eS]⟩,⟨Y,36,nc y⟩,⟨b1,36,nc x⟩] [];refine zV 4 5 (qS (sB C) ((wds x).length) ((wds x).length)) (zV 5 6 (qS (sB K) ((wds y).length) ((wds y).length)) (th (lL c [.m 14 5] (IL 15 1 c (fun _ g_ f_ O=>qI (sB C) (wds x).length (wds x) (wds x).length rfl (Wd.wds x) (by rw[ay];omega) oM _ _ g_ (f_.1) (SlO.of_flat (sz:=1) (f:=am) (d:=0) (b:=C) (o:=0) (l:=wds x) (fun _=>rfl) O)) ?_))));rintro _ _ _ c ⟨kx,mx,rfl,htx,hkx⟩;rw[ay] at htx
 refine lL c [.m 16 6] (IL 17 0 c (fun _ g_ f_ O=>qI (sB K) (wds y).length (wds y) (wds y).length rfl (Wd.wds y) (by rw[ay];omega) oM _ _ g_ (f_.1) (SlO.of_flat (sz:=1) (f:=am) (d:=0) (b:=K) (o:=0) (l:=wds y) (fun _=>rfl) O)) ?_);rintro _ _ _ c ⟨ky,my,rfl,hty,hky⟩;rw[ay] at hty
 refine lV 18 (nV (min kx ky)) ?_ (hr:=aK (n:=if (ky:Int)<(kx:Int) then (ky:Int) else (kx:Int)) kR (by split<;>omega));refine lL c [.m 7 18] (aI (lL c [.m 19 5] (d6 20 (qV C (wds x) 0 ((wds x).length) ((wds x).length) x hpx oM oM (nR _) (Wd.wds x) (sd _ _ (nR _)) _ _ c.g (c.own 1) (c.jk 1) c.f.1) ?_)));rintro _ _ _ u27 ⟨z24,o24,n24,zl,rfl,hj,cc,c5,cy,⟨h5,d3,k,c4⟩,f1⟩;replace c:=(c.stepM 1 u27 f1).to [⟨K,34,(wds y).flatMap am⟩,⟨C,34,(z24).flatMap am⟩,⟨U,36,[uV 0,eS]⟩,⟨Y,36,nc y⟩,⟨b1,36,nc x⟩] [];have ch:=k.odd_pos;have hq:=k.le;refine lL c [.m 21 6] (d6 22 (qV K (wds y) 0 ((wds y).length) ((wds y).length) y hpy oM oM (nR _) (Wd.wds y) (sd _ _ (nR _)) _ _ c.g (c.own 0) (c.jk 0) c.f.1) ?_);rintro _ _ zm u31 ⟨z28,o28,n28,zn,rfl,hb,bd,br,bm,⟨j8,fn,i,bk⟩,ds⟩;replace c:=(c.stepM 0 u31 ds).to [⟨K,34,(z28).flatMap am⟩,⟨C,34,(z24).flatMap am⟩,⟨U,36,[uV 0,eS]⟩,⟨Y,36,nc y⟩,⟨b1,36,nc x⟩] [];have c3:=i.odd_pos;have hc:=i.le;refine lL c [.m 5 20,.m 6 22] (ah (kZ ?_));refine bH _ (CG.loop (fun μ_ Γ w_=>∃ (H:Nat) (J:List Nat) (Q:Nat) (L:Nat) (c1:Nat) (M:Nat) (l2:List Nat) (W:Nat) (S:Nat) (c2:Nat) (u:Nat) (y1:Nat) (h_:Hp),μ_=u+y1∧Γ=[(4,pB U),(7,nV (min kx ky)),(5,qS (some ⟨H,Q,none⟩) L c1),(6,qS (some ⟨M,W,none⟩) S c2)]∧SS w h w_ h_ [⟨M,34,(l2).flatMap am⟩,⟨H,34,(J).flatMap am⟩,⟨U,36,[uV 0,eS]⟩,⟨Y,36,nc y⟩,⟨b1,36,nc x⟩] [] [fun h_=>Tab h_]∧J.length≤1000000000∧Wd J∧Q+L≤J.length∧L≤c1∧win J Q L=wds u∧0<u∧l2.length≤1000000000∧Wd l2∧W+S≤l2.length∧S≤c2∧win l2 W S=wds y1∧0<y1∧u%2=1∧y1%2=1∧La u y1*2^min kx ky=La x y) _ ⟨C,z24,o24,n24,zl,K,z28,o28,n28,zn,d3,fn,zm,rfl,rfl,c.to _ _,oM,cc,c5,cy,c4,ch,oM,bd,br,bm,bk,c3,k.2,i.2,(by rw[(htx.uniq k).1,(hty.uniq i).1];exact (vq k i).symm)⟩ ?_);rintro _ _ _ ⟨H,J,Q,L,c1,M,l2,W,S,c2,u,y1,_,h4,rfl,c,hl1,hW1,B,bb,e,hx1,hl2,hW2,I,X,j,hy1,hxo,hyo,hG⟩;have j4:=gi u y1;have fm:=congrArg K0 e;rw[bO B] at fm
 have ft:=congrArg K0 j;rw[bO I] at ft
 refine kZ (aa c [.m 23 5,.m 24 6] (In 25 1 0 c (fun _ g_ f_ O Z=>tE (some ⟨H,Q,none⟩) c1 (some ⟨M,W,none⟩) c2 u y1 L S (win J Q L) (win l2 W S) e j (bO B) (bO I) oM oM _ _ g_ (SlO.win (f:=am) (d:=0) (b:=H) (l:=J) (fun _=>rfl) O Q L) (SlO.win (f:=am) (d:=0) (b:=M) (l:=l2) (fun _=>rfl) Z W S)) ?_));rintro _ _ _ c rfl;refine lL c [.m 8 25] (ah (aa c [.m 26 8] ?_));cases za:((cD u y1:Int) == (0:Int))
 ·
  have zd:=ae za;refine lB 27 za (af (cK (cQ (aa c [.m 28 8] ?_))));cases zb:(decide ((cD u y1:Int)<(0:Int)))
  ·
   have ze:=oF zb;refine lB 29 zb (af (cK (kQ (lL c [.m 32 5,.m 33 6] (Gy 34 1 0 c (fun _ g_ f_ hj_ Z=>uL H J Q L c1 u oM B bb hW1 e (some ⟨M,W,none⟩) c2 y1 S (win l2 W S) j (bO I) X oM _ _ g_ (c.own 1) hj_ (SlO.win (f:=am) (d:=0) (b:=M) (l:=l2) (fun _=>rfl) Z W S)) ?_)))));rintro _ _ _ u44 ⟨s41,d1,d0,d4,rfl,hd,b9,bq,b0,b3,zi⟩;replace c:=(c.stepM 1 u44 zi).to [⟨M,34,(l2).flatMap am⟩,⟨H,34,(s41).flatMap am⟩,⟨U,36,[uV 0,eS]⟩,⟨Y,36,nc y⟩,⟨b1,36,nc x⟩] [];refine d6 35 (qV H s41 d1 d0 d4 (u-y1) oM oM bq b0 b9 b3 _ _ c.g (c.own 1) (c.jk 1) c.f.1) ?_;rintro _ _ zo u48 ⟨z45,o45,n45,zp,rfl,hm,bt,db,cx,⟨h7,df,D,c6⟩,fy⟩;replace c:=(c.stepM 1 u48 fy).to [⟨M,34,(l2).flatMap am⟩,⟨H,34,(z45).flatMap am⟩,⟨U,36,[uV 0,eS]⟩,⟨Y,36,nc y⟩,⟨b1,36,nc x⟩] [];have cq:=D.odd_pos;have hk:=D.le;refine lL c [.m 5 35] (lD ?_);intro a_ ka;refine ⟨_,_,?_,⟨H,z45,o45,n45,zp,M,l2,W,S,c2,df,y1,zo,rfl,rfl,c.to _ _,oM,bt,db,cx,c6,cq,oM,hW2,I,X,j,hy1,D.2,hyo,(by rw[rv oM hyo D];exact hG)⟩,ka.to _ kR⟩
   omega
  have ze:=oT zb;refine lB 29 zb (ak (kQ (lL c [.m 30 6,.m 31 5,.m 5 30,.m 6 31] (lN (kQ (lL c [.m 32 5,.m 33 6] (Gy 34 0 1 c (fun _ g_ f_ hj_ Z=>uL M l2 W S c2 y1 oM I X hW2 j (some ⟨H,Q,none⟩) c1 u L (win J Q L) e (bO B) bb oM _ _ g_ (c.own 0) hj_ (SlO.win (f:=am) (d:=0) (b:=H) (l:=J) (fun _=>rfl) Z Q L)) ?_)))))));rintro _ _ _ u67 ⟨s64,dn,fb,f0,rfl,f3,bl,bn,c7,b2,zj⟩;replace c:=(c.stepM 0 u67 zj).to [⟨M,34,(s64).flatMap am⟩,⟨H,34,(J).flatMap am⟩,⟨U,36,[uV 0,eS]⟩,⟨Y,36,nc y⟩,⟨b1,36,nc x⟩] [];refine d6 35 (qV M s64 dn fb f0 (y1-u) oM oM bn c7 bl b2 _ _ c.g (c.own 0) (c.jk 0) c.f.1) ?_;rintro _ _ zq u71 ⟨z68,o68,n68,zr,rfl,hl,bw,cr,b5,⟨ht,fz,F,cm⟩,dc⟩;replace c:=(c.stepM 0 u71 dc).to [⟨M,34,(z68).flatMap am⟩,⟨H,34,(J).flatMap am⟩,⟨U,36,[uV 0,eS]⟩,⟨Y,36,nc y⟩,⟨b1,36,nc x⟩] [];have cz:=F.odd_pos;have hh:=F.le;refine lL c [.m 5 35] (lD ?_);replace c:=c.perm (List.Perm.swap _ _ _);intro a_ ka;refine ⟨_,_,?_,⟨M,z68,o68,n68,zr,H,J,Q,L,c1,fz,u,zq,rfl,rfl,c.to _ _,oM,bw,cr,b5,cm,cz,oM,hW1,B,bb,e,hx1,F.2,hxo,(by rw[rv oM hxo F,Lb];exact hG)⟩,ka.to _ kR⟩
  omega
 have zd:=ML za;refine lB 27 za (ak (CG.exit ?_))
 show CG _ _ _ _ _ _ _ _
 refine aa c [.m 36 5] (IL 37 1 c (fun _ g_ f_ O=>Hk (some ⟨H,Q,none⟩) c1 (win J Q L) L u e (bO B) oM _ _ g_ (SlO.win (f:=am) (d:=0) (b:=H) (l:=J) (fun _=>rfl) O Q L)) ?_);rintro _ _ _ c rfl;refine lA 9 36 ([uV 0,eS]) c (fun zg _ zs c=>lP 0 0 (nc u) c (fun _ c=>ah (kZ ?_)));refine bH _ (CG.loop (fun μ_ Γ w_=>∃ (z:Int) (a:Nat) (h_:Hp),μ_=z.toNat∧Γ=[(4,pB U),(9,pB zg),(7,iV z)]∧SS w h w_ h_ [⟨zg,36,nc a⟩,⟨M,34,(l2).flatMap am⟩,⟨H,34,(J).flatMap am⟩,⟨U,36,[uV 0,eS]⟩,⟨Y,36,nc y⟩,⟨b1,36,nc x⟩] [] [fun h_=>Tab h_]∧z≤64000000000∧a*2^z.toNat=La x y) _ ⟨((min kx ky:Nat):Int),u,zs,rfl,rfl,c.to _ _,oM,(by rw[show u=y1 by omega,Nat.gcd_self] at hG;rw[show u=y1 by omega];rw[show (((min kx ky:Nat):Int)).toNat=min kx ky by omega];exact hG)⟩ ?_);rintro _ _ _ ⟨z,a,_,j1,rfl,c,hz,ha⟩;refine cQ (aa c [.m 38 7] ?_);cases zc:(decide ((0:Int)<(z:Int)))
 ·
  have zf:=oF zc;refine lB 39 zc (af (CG.exit ?_))
  show CG _ _ _ _ _ _ _ _
  exact aa c [.o 46 (nv a) 0 0 2] (lP 3 0 (nc a) c (fun _ c=>ac c [(3,0,2)] (nv a) (by rw[show z.toNat=0 by omega,K8,Nat.mul_one] at ha;rw[ha])))
 have zf:=oT zc;refine lB 39 zc (ak (cK (cQ (kZ (kQ (lL c [.o 42 (nv a) 0 0 2,.m 43 7] (lV 44 (nV (min z.toNat 65536)) ?_ (hr:=aK (n:=if (65536:Int)<z then (65536:Int) else z) kR (by split<;>omega)))))))));refine ag 45 c (EX a (min z.toNat 65536) (by have:=cF (show a≤x by exact ez (Nat.le_mul_of_pos_right a (Ka z.toNat)) (by rw[ha];exact Lt y hx));omega) oM _ _ c.g) (fun _ zk c=>lP 0 0 (nc (a*2^min z.toNat 65536)) c (fun _ c=>lN (kQ (lL c [.m 40 7] (lI 41 (z-65536) ?_)))));refine lL c [.m 7 41] (lD ?_);intro a_ ka;refine ⟨_,_,?_,⟨z-65536,a*2^min z.toNat 65536,zk,rfl,rfl,c.to _ _,oM,(by rw[J2,←Kd,show min z.toNat 65536+(z-65536).toNat=z.toNat by omega];exact ha)⟩,ka.to _ kR⟩
 omega
theorem gF (n:Nat):(n=0∧nb n=0)∨(0<n∧0<nb n):=by
 rcases HA n with h|h
 ·subst h;exact .inl ⟨rfl,rfl⟩
 ·exact .inr ⟨h,(ci h).2.2⟩
theorem fh (x y:Nat):La y (x%y)=La x y:=by rw[Lb y,←Nat.gcd_rec,Lb]
theorem xa (n:Nat)(w:World)(h:Hp)(g:G w h):CR 173 #[nv n] w h (fun v _=>∃ s:Nat,∃ ok:Bool,v=.tuple #[mV s,.bool ok]∧(ok=true→s=n∧n<18446744073709551616)):=by
 rcases ep n 18446744073709551616 with hn|hn
 ·refine (i9 n hn w h g).mono ?_
  rintro _ w' ⟨_,h',rfl,u,rfl⟩;exact ⟨_,h',rfl,u,n,true,rfl,fun _=>⟨rfl,hn⟩⟩
 ·refine (BS n hn w h g).mono ?_
  rintro _ w' ⟨_,h',rfl,u,rfl⟩;exact ⟨_,h',rfl,u,0,false,rfl,fun e=>by cases e⟩
theorem IB (a b:Int)(hla:(wds (ab a)).length≤1000000000)(hlb:(wds (ab b)).length≤1000000000)(w:World)(h:Hp)(g:G w h)(tb:Tab h):CV 135 #[iv a,iv b] w h (nv (La (ab a) (ab b))):=by
 have c:=((sS g).aB tb);refine go Tryz.func135 [(0,iv a),(1,iv b)] rfl (av (lA 2 38 (ic a) c (fun b1 w2 h3 c=>lA 3 38 (ic b) c (fun b4 w5 h6 c=>lA 4 36 ([uV 0,eS]) c (fun K w8 h9 c=>ah ?_)))));have B:=c;refine BR 6 [⟨4,5,.cells (Lu [uV 0,eS]) 36 (0,0)⟩,⟨5,6,.cells (Lu [uV 0,eS]) 36 (0,0)⟩] [] mixed c (bW (fA kR (fun _ _=>by kernel_rfl)) (bW (fA kR (fun _ _=>by kernel_rfl)) ar)) (eV 0 14 (qP b1 1) (eO 1 15 [(2,1,2)] (nv (ab a)) c (eV 2 16 (qP b4 1) (ut 3 17 [(1,1,2)] (nv (ab b)) B c (DV B c 36 [uV 0,eS] 36 [uV 0,eS] (fun _ _ za zb S O c=>tP 6 0 0 (nc (ab a)) c (fun _ c=>?_) (hz:=ik S)))))));refine tP 7 1 0 (nc (ab b)) c (fun _ c=>?_) (hz:=ik O);refine tN (cQ (aa c [.o 18 (nv (ab a)) 0 0 2,.o 19 (nv (ab b)) 1 0 2] (ag 20 c (lk (ab a) (ab b) aM aM _ _ c.g) (fun _ _ c=>?_))));have hcm:=gi (ab a) (ab b);cases V:(decide ((cD (ab a) (ab b):Int)<(0:Int)))
 ·
  have zm:=oF V;refine lB 21 V (af (cK (cQ (av ?_))));have D:La (ab a) (ab b)=La (ab a) (ab b):=by first|rfl|exact Lb _ _
  refine lL c [.o 24 (nv (ab b)) 1 0 2] (ag 25 c (eu (ab b) (by first|assumption|exact ax (Lv (A4 _ oM)) aM) _ _ c.g) (fun _ _ c=>?_));have M:=gF (ab b);cases Z:(((nb (ab b):Nat):Int) == (0:Int))
  ·
   have zn:=ae Z;refine lB 26 Z (af (cK (aa c [.o 29 (nv (ab a)) 0 0 2,.o 30 (nv (ab b)) 1 0 2] (ag 31 c (FT (ab a) (ab b) oM aM aM _ _ c.g) (fun _ _ c=>?_)))));have hmd:=A4 (ab a) (show 0<(ab b) by omega);refine lL c [.m 28 31,.v 32 (nv ((ab a)/(ab b))),.v 33 (nv ((ab a)%(ab b))),.v 34 qT] (lA 7 36 ([uV 0,eS]) c (fun zu _ _ c=>lA 8 36 ([uV 0,eS]) c (fun zv _ _ c=>lP 1 0 (nc ((ab a)/(ab b))) c (fun _ c=>lP 0 0 (nc ((ab a)%(ab b))) c (fun _ c=>lL c [.m 9 34] (ah ?_))))));have B:=c;refine BR 2 [] [za,zb] mixed c ar (eO 0 35 [(3,0,2)] (nv (ab b)) c (ut 1 36 [(0,0,2)] (nv ((ab a)%(ab b))) B c ?_ (hM:=fun p J=>by obtain rfl:=pa.1 J;exact fun C=>by rcases g7.1 C with e|C;exact eN c.st (i:=0) (j:=2) kR kR kR e;rcases g7.1 C with e|C;exact eN c.st (i:=0) (j:=3) kR kR kR e;cases C)));refine ck c (fun _ _ c=>tP 2 2 0 (nc (ab b)) c (fun _ c=>?_) (hz:=ej (Lf)));refine tP 3 3 0 (nc ((ab a)%(ab b))) c (fun _ c=>?_) (hz:=ej (Lg _<|Lf));refine tN (cQ (av ?_));have z:La (ab b) ((ab a)%(ab b))=La (ab a) (ab b):=by rw[←D];exact fh _ _
   refine lL c [.o 37 (nv ((ab a)%(ab b))) 3 0 2] (ag 38 c (eu ((ab a)%(ab b)) (by first|assumption|exact ax (Lv (A4 _ oM)) aM) _ _ c.g) (fun _ _ c=>?_));have L:=gF ((ab a)%(ab b));cases ze:(((nb ((ab a)%(ab b)):Nat):Int) == (0:Int))
   ·
    have zo:=ae ze;refine lB 39 ze (af (cK (cQ (aa c [.o 42 (nv (ab b)) 2 0 2] (lC 43 c (xa (ab b) _ _ c.g) ?_)))));rintro _ _ _ c ⟨F,ok,rfl,d⟩;refine lL c [.m 41 43,.v 44 (mV F),.v 45 (.bool ok),.m 10 44,.m 11 45] (aI (lL c [.m 46 11] (lN (bH [(4,pB K),(6,pB zb),(5,pB za),(10,mV F),(46,.bool ok)] ?_))));cases Y:(ok)
    ·
     try rw[Y] at c
     try rw[Y]
     exact cv (cK (aa c [.o 60 (nv (ab b)) 2 0 2,.o 61 (nv ((ab a)%(ab b))) 3 0 2] (ag 62 c (rZ (ab b) ((ab a)%(ab b)) oM oM (by first|assumption|exact ax (Lv (A4 _ oM)) aM) (by first|assumption|exact ax (Lv (A4 _ oM)) aM) _ _ c.g c.f.1) (fun _ _ c=>lP 4 0 (nc (La (ab b) ((ab a)%(ab b)))) c (fun _ c=>ac c [(4,0,2)] (nv (La (ab b) ((ab a)%(ab b)))) (congrArg nv z))))))
    try rw[Y] at c
    try rw[Y]
    refine ce (aa c [.o 48 (nv ((ab a)%(ab b))) 3 0 2] (ag 49 c (i9 ((ab a)%(ab b)) (by have l:=d aM;omega) _ _ c.g) (fun _ zw c=>lL c [.m 47 49,.v 50 (mV ((ab a)%(ab b))),.v 51 qT,.m 12 50,.m 13 51] (ah (kZ ?_)))));refine bH _ (CG.loop (fun H Γ w_=>∃ (p:Nat) (q:Nat) (I:Hp),H=q∧Γ=[(4,pB K),(6,pB zb),(5,pB za),(10,mV p),(12,mV q)]∧SS w h w_ I [⟨zv,36,nc ((ab a)%(ab b))⟩,⟨zu,36,nc ((ab a)/(ab b))⟩,⟨za,36,nc (ab b)⟩,⟨zb,36,nc ((ab a)%(ab b))⟩,⟨K,36,[uV 0,eS]⟩,⟨b4,38,ic b⟩,⟨b1,38,ic a⟩] [] [fun I=>Tab I]∧p<18446744073709551616∧q<18446744073709551616∧La p q=La (ab a) (ab b)) _ ⟨F,((ab a)%(ab b)),zw,rfl,rfl,c.to _ _,(by have l:=d aM;omega),(by have l:=d aM;omega),(by rw[(d aM).1];exact z)⟩ ?_);rintro _ _ _ ⟨p,q,_,bb,rfl,c,J,hq,U⟩;refine cQ (aa c [.m 52 12] ?_);cases zg:(decide ((0:Int)<(q:Int)))
    ·
     have zp:=oF zg;refine lB 53 zg (af (CG.exit ?_))
     show CG _ _ _ _ _ _ _ _
     exact aa c [.m 58 10] (ag 59 c (GB p J _ _ c.g) (fun _ _ c=>lP 4 0 (nc p) c (fun _ c=>ac c [(4,0,2)] (nv p) (congrArg nv (by rw[←U,show q=0 by omega,Lw])))))
    have zp:=oT zg;refine lB 53 zg (ak (cK (kZ (cR 4 [] mixed c ar ?_))));refine eV 0 54 (mV q) (eV 1 55 (mV p) (eV 2 56 (mV q) (eV 3 57 (mV (p%q)) ?_ (hv:=fun _=>aK (dU (t:=34) (u:=34) (x:=.tmp 55) (y:=.tmp 56) (k:=.u64) (a:=(p:Int)) (b:=(q:Int)) kR kR kR oM _) (cp p q)))));refine ck c (fun _ zx c=>tV 4 10 (mV q) (tV 5 12 (mV (p%q)) (tD ?_)));intro a_ ka;refine ⟨_,_,?_,⟨q,p%q,zx,rfl,rfl,c.to _ _,hq,(by have:=A4 p (show 0<q by omega);omega),(by rw[fh];exact U)⟩,ka.to _ kR⟩;have Q:=A4 p (show 0<q by omega)
    omega
   have zo:=ML ze;exact lB 39 ze (ak (aa c [.o 40 (nv (ab b)) 2 0 2] (lP 4 0 (nc (ab b)) c (fun _ c=>ac c [(4,0,2)] (nv (ab b)) (congrArg nv (by rw[←z,show ((ab a)%(ab b))=0 by omega,Lw]))))))
  have zn:=ML Z;exact lB 26 Z (ak (aa c [.o 27 (nv (ab a)) 0 0 2] (lP 2 0 (nc (ab a)) c (fun _ c=>ac c [(2,0,2)] (nv (ab a)) (congrArg nv (by rw[←D,show (ab b)=0 by omega,Lw]))))))
 have zm:=oT V;refine lB 21 V (ak (kQ (lL c [.o 22 (nv (ab b)) 1 0 2,.o 23 (nv (ab a)) 0 0 2] (lP 0 0 (nc (ab b)) c (fun _ c=>lP 1 0 (nc (ab a)) c (fun _ c=>ah (av ?_)))))));have D:La (ab b) (ab a)=La (ab a) (ab b):=by first|rfl|exact Lb _ _
 refine lL c [.o 24 (nv (ab a)) 1 0 2] (ag 25 c (eu (ab a) (by first|assumption|exact ax (Lv (A4 _ oM)) aM) _ _ c.g) (fun _ _ c=>?_));have M:=gF (ab a);cases zi:(((nb (ab a):Nat):Int) == (0:Int))
 ·
  have zq:=ae zi;refine lB 26 zi (af (cK (aa c [.o 29 (nv (ab b)) 0 0 2,.o 30 (nv (ab a)) 1 0 2] (ag 31 c (FT (ab b) (ab a) oM aM aM _ _ c.g) (fun _ _ c=>?_)))));have hmd:=A4 (ab b) (show 0<(ab a) by omega);refine lL c [.m 28 31,.v 32 (nv ((ab b)/(ab a))),.v 33 (nv ((ab b)%(ab a))),.v 34 qT] (lA 7 36 ([uV 0,eS]) c (fun zA _ _ c=>lA 8 36 ([uV 0,eS]) c (fun zB _ _ c=>lP 1 0 (nc ((ab b)/(ab a))) c (fun _ c=>lP 0 0 (nc ((ab b)%(ab a))) c (fun _ c=>lL c [.m 9 34] (ah ?_))))));have B:=c;refine BR 2 [] [za,zb] mixed c ar (eO 0 35 [(3,0,2)] (nv (ab a)) c (ut 1 36 [(0,0,2)] (nv ((ab b)%(ab a))) B c ?_ (hM:=fun p J=>by obtain rfl:=pa.1 J;exact fun C=>by rcases g7.1 C with e|C;exact eN c.st (i:=0) (j:=2) kR kR kR e;rcases g7.1 C with e|C;exact eN c.st (i:=0) (j:=3) kR kR kR e;cases C)));refine ck c (fun _ _ c=>tP 2 2 0 (nc (ab a)) c (fun _ c=>?_) (hz:=ej (Lf)));refine tP 3 3 0 (nc ((ab b)%(ab a))) c (fun _ c=>?_) (hz:=ej (Lg _<|Lf));refine tN (cQ (av ?_));have z:La (ab a) ((ab b)%(ab a))=La (ab a) (ab b):=by rw[←D];exact fh _ _
  refine lL c [.o 37 (nv ((ab b)%(ab a))) 3 0 2] (ag 38 c (eu ((ab b)%(ab a)) (by first|assumption|exact ax (Lv (A4 _ oM)) aM) _ _ c.g) (fun _ _ c=>?_));have L:=gF ((ab b)%(ab a));cases zj:(((nb ((ab b)%(ab a)):Nat):Int) == (0:Int))
  ·
   have zr:=ae zj;refine lB 39 zj (af (cK (cQ (aa c [.o 42 (nv (ab a)) 2 0 2] (lC 43 c (xa (ab a) _ _ c.g) ?_)))));rintro _ _ _ c ⟨F,ok,rfl,d⟩;refine lL c [.m 41 43,.v 44 (mV F),.v 45 (.bool ok),.m 10 44,.m 11 45] (lN (bH [(4,pB K),(6,pB zb),(5,pB za),(10,mV F),(11,.bool ok)] ?_));refine aa c [.m 46 11] (lN ?_);cases X:(ok)
   ·
    try rw[X] at c
    try rw[X]
    exact cv (cK (aa c [.o 60 (nv (ab a)) 2 0 2,.o 61 (nv ((ab b)%(ab a))) 3 0 2] (ag 62 c (rZ (ab a) ((ab b)%(ab a)) oM oM (by first|assumption|exact ax (Lv (A4 _ oM)) aM) (by first|assumption|exact ax (Lv (A4 _ oM)) aM) _ _ c.g c.f.1) (fun _ _ c=>lP 4 0 (nc (La (ab a) ((ab b)%(ab a)))) c (fun _ c=>ac c [(4,0,2)] (nv (La (ab a) ((ab b)%(ab a)))) (congrArg nv z))))))
   try rw[X] at c
   try rw[X]
   refine ce (aa c [.o 48 (nv ((ab b)%(ab a))) 3 0 2] (ag 49 c (i9 ((ab b)%(ab a)) (by have l:=d aM;omega) _ _ c.g) (fun _ zD c=>lL c [.m 47 49,.v 50 (mV ((ab b)%(ab a))),.v 51 qT,.m 12 50,.m 13 51] (ah (kZ ?_)))));refine bH _ (CG.loop (fun H Γ w_=>∃ (p:Nat) (q:Nat) (I:Hp),H=q∧Γ=[(4,pB K),(6,pB zb),(5,pB za),(10,mV p),(12,mV q)]∧SS w h w_ I [⟨zB,36,nc ((ab b)%(ab a))⟩,⟨zA,36,nc ((ab b)/(ab a))⟩,⟨za,36,nc (ab a)⟩,⟨zb,36,nc ((ab b)%(ab a))⟩,⟨K,36,[uV 0,eS]⟩,⟨b4,38,ic b⟩,⟨b1,38,ic a⟩] [] [fun I=>Tab I]∧p<18446744073709551616∧q<18446744073709551616∧La p q=La (ab a) (ab b)) _ ⟨F,((ab b)%(ab a)),zD,rfl,rfl,c.to _ _,(by have l:=d aM;omega),(by have l:=d aM;omega),(by rw[(d aM).1];exact z)⟩ ?_);rintro _ _ _ ⟨p,q,_,bd,rfl,c,J,hq,U⟩;refine cQ (aa c [.m 52 12] ?_);cases W:(decide ((0:Int)<(q:Int)))
   ·
    have zs:=oF W;refine lB 53 W (af (CG.exit ?_))
    show CG _ _ _ _ _ _ _ _
    exact aa c [.m 58 10] (ag 59 c (GB p J _ _ c.g) (fun _ _ c=>lP 4 0 (nc p) c (fun _ c=>ac c [(4,0,2)] (nv p) (congrArg nv (by rw[←U,show q=0 by omega,Lw])))))
   have zs:=oT W;refine lB 53 W (ak (cK (kZ (cR 4 [] mixed c ar ?_))));refine eV 0 54 (mV q) (eV 1 55 (mV p) (eV 2 56 (mV q) (eV 3 57 (mV (p%q)) ?_ (hv:=fun _=>aK (dU (t:=34) (u:=34) (x:=.tmp 55) (y:=.tmp 56) (k:=.u64) (a:=(p:Int)) (b:=(q:Int)) kR kR kR oM _) (cp p q)))));refine ck c (fun _ zt c=>tV 4 10 (mV q) (tV 5 12 (mV (p%q)) (tD ?_)));intro a_ ka;refine ⟨_,_,?_,⟨q,p%q,zt,rfl,rfl,c.to _ _,hq,(by have:=A4 p (show 0<q by omega);omega),(by rw[fh];exact U)⟩,ka.to _ kR⟩;have Q:=A4 p (show 0<q by omega)
   omega
  have zr:=ML zj;exact lB 39 zj (ak (aa c [.o 40 (nv (ab a)) 2 0 2] (lP 4 0 (nc (ab a)) c (fun _ c=>ac c [(4,0,2)] (nv (ab a)) (congrArg nv (by rw[←z,show ((ab b)%(ab a))=0 by omega,Lw]))))))
 have zq:=ML zi;exact lB 26 zi (ak (aa c [.o 27 (nv (ab b)) 0 0 2] (lP 2 0 (nc (ab b)) c (fun _ c=>ac c [(2,0,2)] (nv (ab b)) (congrArg nv (by rw[←D,show (ab a)=0 by omega,Lw]))))))
theorem og (z:Int)(b:Nat)(c:(b:Int)∣z):bC (decide (z.sign<0)) (ab z/b)=z/b:=by
 obtain ⟨k,rfl⟩:=c
 rcases HA b with hb|hb
 ·subst hb;simp[bC,ab]
 have e1:ab ((b:Int)*k)/b=k.natAbs:=by
  unfold ab
  rw[Lx,Ly,Lr _ hb]
 have e2:((b:Int)*k)/b=k:=Lz _ oM;have a:((b:Int)*k).sign=k.sign:=by rw[Int.sign_mul,Int.sign_natCast_of_ne_zero oM,Int.one_mul]
 rw[e1,e2,a]
 unfold bC
 rcases LB k 0 with h|h|h
 ·rw[LC h];simp;omega
 ·subst h;simp
 ·rw[LD h];simp;omega
theorem kE (a b:Rat):∀ g h:Nat,∀ up:Int,g=La a.den b.den→up=a.num*((b.den/g:Nat):Int)+b.num*((a.den/g:Nat):Int)→h=La (ab up) g →
    (a+b).num=up/h∧(a+b).den=(a.den/g)*(b.den/h)∧(h:Int)∣up∧h∣b.den∧0<h∧0<g:=by
  intro g h up c e f;have j:0<g:=by rw[c];exact Nat.gcd_pos_of_pos_left _ a.den_pos
  have u:0<h:=by rw[f];exact LF _ j
  have x:g∣a.den:=by rw[c];exact LH _ _
  have l:g∣b.den:=by rw[c];exact LI _ _
  have o:h∣g:=by rw[f];exact LI _ _
  have p:(h:Int)∣up:=by
    have h1:h∣up.natAbs:=by rw[f];exact LH _ _
    exact LJ (LK.2 h1) (LL.2 (LM _))
  have i:h∣b.den:=Nat.dvd_trans o l;refine ⟨?_,?_,p,i,u,j⟩
  · show (LN a b).num=_
    delta LN
    dsimp only
    split
    · rename_i h1
      have k:g=1:=by rw[c];exact h1
      dsimp only
      clear h1 c
      subst k;have d:h=1:=by rw[f];simp
      rw[d,e];simp
    · subst c e f
      dsimp only[LO]
      split
      · rename_i h1
        dsimp only
        unfold ab
        rw[h1];simp
      · dsimp only
        rw[LP]
        rfl
  · show (LN a b).den=_
    delta LN
    dsimp only
    split
    · rename_i h1
      have k:g=1:=by rw[c];exact h1
      dsimp only
      clear h1 c
      subst k;have d:h=1:=by rw[f];simp
      rw[d];simp
    · subst c e f
      dsimp only[LO]
      split
      · rename_i h1
        dsimp only
        unfold ab
        rw[h1];simp
      · dsimp only
        rw[LR]
        unfold ab at *
        rw[Nat.mul_div_assoc _ i]
theorem ku (a b:Rat):∀ g h:Nat,g=La (ab a.num) b.den→h=La (ab b.num) a.den →
  (a*b).num=(a.num/g)*(b.num/h)∧(a*b).den=(a.den/h)*(b.den/g)∧(g:Int)∣a.num∧(h:Int)∣b.num∧0<g∧0<h:=by
 intro g h d c;have e:0<g:=by rw[d];exact LF _ b.den_pos
 have f:0<h:=by rw[c];exact LF _ a.den_pos
 have j:(g:Int)∣a.num:=by
  have h1:g∣a.num.natAbs:=by rw[d];exact LH _ _
  exact LJ (LK.2 h1) (LL.2 (LM _))
 have i:(h:Int)∣b.num:=by
  have h1:h∣b.num.natAbs:=by rw[c];exact LH _ _
  exact LJ (LK.2 h1) (LL.2 (LM _))
 refine ⟨?_,?_,j,i,e,f⟩
 ·show (LS a b).num=_
  delta LS
  dsimp only
  rw[LP,LP,d,c];rfl
 ·show (LS a b).den=_
  delta LS
  dsimp only
  rw[LR,LR,d,c];rfl
theorem hJ (n:Int)(d:Nat)(a:0<d):(mkRat n d).num=n/(La (ab n) d:Nat)∧(mkRat n d).den=d/La (ab n) d∧((La (ab n) d:Nat):Int)∣n∧0<La (ab n) d:=by
 have b:((La (ab n) d:Nat):Int)∣n:=by
  have h1:La (ab n) d∣n.natAbs:=LH _ _;exact LJ (LK.2 h1) (LL.2 (LM _))
 unfold mkRat
 rw[dif_neg oM,Rat.normalize_eq];exact ⟨rfl,rfl,b,LF _ a⟩
theorem qW (b:Rat)(h:b.num≠0):(b⁻¹).num=bC (decide (b.num.sign<0)) b.den∧(b⁻¹).den=ab b.num:=by
 have e:b⁻¹=Rat.inv b:=rfl;rw[e]
 delta Rat.inv
 split
 ·rename_i h1
  rw[LC h1];simp[bC,ab]
 ·split
  ·rename_i h1
   rw[LD h1];simp[bC,ab]
  ·omega
def LQ (k:Nat)(q:Rat):Prop:=(wds (ab q.num)).length≤k∧(wds q.den).length≤k
theorem dP (n:Nat)(w:World)(h:Hp)(g:G w h):CV 53 #[.bool false,nv n] w h (iv (n:Int)):=wx n w h g
theorem jw (x y:Int)(d:Nat)(c:d=La (ab x) (ab y))(b:(wds (ab x)).length≤1000000000)(a:(wds (ab y)).length≤1000000000)(w:World)(h:Hp)(g:G w h)(e:Tab h):CV 135 #[iv x,iv y] w h (nv d):=by
 subst c;exact IB x y b a w h g e
theorem xv {n:Nat}:nb n=1↔n=1:=by
 rcases HA n with h|h
 ·subst h;simp[nb]
 ·have h1:=ci h
  constructor
  ·intro e;rw[e] at h1;omega
  ·intro e;subst e;rfl
theorem oB {n:Nat}:nb n=0↔n=0:=by
 rcases gF n with ⟨h1,h2⟩|⟨h1,h2⟩<;>omega
theorem l6 {q:Rat}(h:q.den=1):qd q=0:=by unfold qd;rw[MN h]
theorem Db {q:Rat}(h:q.den≠1):qd q=q.den:=by unfold qd;rw[MM h]
theorem AU {q:Rat}:qd q=0↔q.den=1:=by
 unfold qd
 have:=q.den_pos
 split<;>omega
theorem Jq (q:Rat):(((nb (qd q):Nat):Int) == (0:Int))=decide (q.den=1):=by
 rw[Bool.eq_iff_iff]
 simp only[beq_iff_eq,decide_eq_true_eq]
 rw[←AU,←oB]
 omega
theorem hC {q:Rat}{z:Int}{d:Nat}(hz:q.num=z)(a:qd q=d):Value.agg #[.bool (ai z),.int .u64 (lo (ab z)),.string (hi (ab z)),.int .u64 (lo d),.string (hi d)]=qv q:=by subst hz a;rfl
theorem LQ.qd {k:Nat}{q:Rat}(h:LQ k q):(wds (qd q)).length≤k:=by
 unfold Go.Proofs.YtnflfcbfifhpaaaGreatDoor.qd
 split
 ·exact K7 _
 ·exact h.2
theorem G9 (a:Rat)(ha:LQ 1000000000 a)(w:World)(h:Hp)(g:G w h):CV 136 #[iv a.num,nv a.den] w h (qv a):=by
 have b:=sS g;obtain ⟨f,e⟩:=ha;have c:=@xv a.den;refine go Tryz.func136 [(0,iv a.num),(1,nv a.den)] rfl (av (lA 2 38 (ic a.num) b (fun k w2 l b=>lA 3 36 (nc a.den) b (fun u p j b=>lA 4 40 da b (fun y i x b=>ah (aa b [.o 5 (nv a.den) 1 0 2] (ag 6 b (eu a.den cC _ _ b.g) (fun _ _ b=>?_))))))));cases za:(((nb a.den:Nat):Int) == (1:Int))
 ·
  have zb:=ae za;exact lB 7 za (af (cK (aa b [.o 10 (iv a.num) 2 0 3,.o 11 (nv a.den) 1 0 2,.v 12 (.agg #[.bool (ai a.num),uV (lo (ab a.num)),.string (hi (ab a.num)),uV (lo a.den),.string (hi a.den)])] (lP 0 0 ([.bool (ai a.num),uV (lo (ab a.num)),.string (hi (ab a.num)),uV (lo a.den),.string (hi a.den)]) b (fun _ b=>ac b [(0,0,5)] (.agg #[.bool (ai a.num),uV (lo (ab a.num)),.string (hi (ab a.num)),uV (lo a.den),.string (hi a.den)]) (hC (q:=a) (d:=a.den) rfl (Db oM)))))))
 have zb:=ML za;exact lB 7 za (ak (aa b [.o 8 (iv a.num) 2 0 3,.v 9 (.agg #[.bool (ai a.num),uV (lo (ab a.num)),.string (hi (ab a.num)),uV 0,eS])] (lP 0 0 ([.bool (ai a.num),uV (lo (ab a.num)),.string (hi (ab a.num)),uV 0,eS]) b (fun _ b=>ac b [(0,0,5)] (.agg #[.bool (ai a.num),uV (lo (ab a.num)),.string (hi (ab a.num)),uV 0,eS]) (hC (q:=a) (d:=0) rfl (l6 oM))))))
theorem jH (q:Rat)(z:Int)(d:Nat)(hz:q.num=z)(a:d=q.den)(b:LQ 1000000000 q)(w:World)(h:Hp)(g:G w h):CV 136 #[iv z,nv d] w h (qv q):=by
 subst hz a;exact G9 q b w h g
theorem cf (z:Int)(g:Nat)(a:(g:Int)∣z):ab (z/g)≤ab z:=by
 unfold ab
 rcases HA g with h|h
 ·subst h;simp
 ·obtain ⟨k,rfl⟩:=a
  rw[Lz _ oM,Lx,Ly];exact Ls _ h
theorem gt (a b:Nat)(y:0<b)(j:(wds a).length≤1000000000)(e:(wds b).length≤1000000000)(w:World)(h:Hp)(g:G w h):CV 138 #[nv a,nv b] w h (nv (a/b)):=by
 have c:=sS g;have f:=@xv b;refine go Tryz.func138 [(0,nv a),(1,nv b)] rfl (av (lA 2 36 (nc a) c (fun p w2 u c=>lA 3 36 (nc b) c (fun z x l c=>lA 4 36 ([uV 0,eS]) c (fun C k B c=>ah (aa c [.o 8 (nv b) 1 0 2] (ag 9 c (eu b cC _ _ c.g) (fun _ _ c=>?_))))))));cases za:(((nb b:Nat):Int) == (1:Int))
 ·
  have zb:=ae za;exact lB 10 za (af (cK (aa c [.o 13 (nv a) 2 0 2,.o 14 (nv b) 1 0 2] (ag 15 c (FT a b oM aM aM _ _ c.g) (fun _ _ c=>lL c [.m 12 15,.v 16 (nv (a/b)),.v 17 (nv (a%b)),.v 18 qT] (lA 5 36 ([uV 0,eS]) c (fun d _ _ c=>lA 6 36 ([uV 0,eS]) c (fun i _ _ c=>lP 1 0 (nc (a/b)) c (fun _ c=>lP 0 0 (nc (a%b)) c (fun _ c=>lL c [.m 7 18] (aI (lL c [.o 19 (nv (a/b)) 1 0 2] (lP 2 0 (nc (a/b)) c (fun _ c=>ac c [(2,0,2)] (nv (a/b)) rfl))))))))))))))
 have zb:=ML za;exact lB 10 za (ak (aa c [.o 11 (nv a) 2 0 2] (lP 0 0 (nc a) c (fun _ c=>ac c [(0,0,2)] (nv a) (by rw[show b=1 by omega,Nat.div_one])))))
theorem kV (z:Int)(b:Nat)(p:0<b)(e:(b:Int)∣z)(c:(wds (ab z)).length≤1000000000)(d:(wds b).length≤1000000000)(w:World)(h:Hp)(g:G w h):CV 137 #[iv z,nv b] w h (iv (z/b)):=by
 have a:=sS g;have f:(wds (ab z/b)).length≤1000000000:=ax (JT _ _) c;refine go Tryz.func137 [(0,iv z),(1,nv b)] rfl (av (lA 2 38 (ic z) a (fun k w2 l a=>lA 3 36 (nc b) a (fun u o j a=>lA 4 38 ([qF,uV 0,eS]) a (fun y i x a=>ah (cR 8 [] mixed a ar ?_))))));exact eO 0 5 [(2,0,3)] (iv z) a (eO 3 8 [(2,0,3)] (iv z) a (eO 5 10 [(1,0,2)] (nv b) a (aq 1 6 a (fun _ _ a=>kT z cC _ _ a.g) (fun _ _ a=>eV 2 7 (.bool (decide (((z).sign:Int)<(0:Int)))) (aq 4 9 a (fun _ _ a=>tm z _ _ a.g) (fun _ _ a=>aq 6 11 a (fun _ _ a=>gt (ab z) b aM cC cC _ _ a.g) (fun _ _ a=>aq 7 12 a (fun _ _ a=>fH (decide (((z).sign:Int)<(0:Int))) ((ab z)/b) cC _ _ a.g) (fun _ _ a=>ck a (fun _ _ a=>tP 8 0 0 (ic (bC (decide (((z).sign:Int)<(0:Int))) ((ab z)/b))) a (fun _ a=>tN (kX (a.ret [(0,0,3)] (iv (bC (decide (((z).sign:Int)<(0:Int))) ((ab z)/b))) (congrArg iv (og z b e))))))))))))))
theorem gZ (z:Int)(d:Nat)(o:(wds (ab z)).length+(wds d).length≤1000000000)(w:World)(h:Hp)(g:G w h):CV 37 #[iv z,nv d] w h (iv (z*d)):=by
 have a:=sS g;refine go Tryz.func37 [(0,iv z),(1,nv d)] rfl (av (lA 2 38 (ic z) a (fun c w2 j a=>lA 3 36 (nc d) a (fun e k f a=>lA 4 38 ([qF,uV 0,eS]) a (fun l b i a=>ah (cR 4 [] mixed a ar ?_))))));exact eO 0 5 [(2,0,3)] (iv z) a (eO 1 6 [(1,0,2)] (nv d) a (aq 2 7 a (fun _ _ a=>dP d _ _ a.g) (fun _ _ a=>aq 3 8 a (fun _ _ a=>B3 z (d:Int) cC _ _ a.g) (fun _ _ a=>ck a (fun _ _ a=>tP 4 0 0 (ic (z*(d:Int))) a (fun _ a=>tN (kX (a.ret [(0,0,3)] (iv (z*(d:Int))) rfl))))))))
theorem jh (a:Rat)(ha:LQ 100000000 a)(w:World)(h:Hp)(g:G w h):CV 34 #[qv a] w h (.bool (decide (a.den=1))):=by
 have b:=sS g;have d:=ha.qd;exact go Tryz.func34 [(0,qv a)] rfl (av (lA 1 40 (qc a) b (fun c w2 f b=>lL b [.v 2 qF] (aI (lL b [.v 3 (qP c 3),.o 4 (nv (qd a)) 0 3 2] (ag 5 b (eu (qd a) cC _ _ b.g) (fun e i b=>lL b [.v 6 (.bool (((nb (qd a):Nat):Int) == (0:Int))),.m 2 6] (ac b [] (.bool (((nb (qd a):Nat):Int) == (0:Int))) (congrArg Value.bool (Jq a))))))))))
theorem eT (a:Rat)(ha:LQ 100000000 a)(w:World)(h:Hp)(g:G w h):CV 38 #[qv a] w h (nv a.den):=by
 have b:=sS g;refine go Tryz.func38 [(0,qv a)] rfl (av (lA 1 40 (qc a) b (fun e w2 l b=>lA 2 36 ([uV 0,eS]) b (fun f p i b=>ah (aa b [.o 3 (qv a) 1 0 5] (ag 4 b (jh a aM _ _ b.g) (fun j k b=>?_)))))));cases c:(decide (a.den=1))
 ·
  have d:=oF c;exact af (cK (aa b [.v 6 (qP e 3),.o 7 (nv (qd a)) 1 3 2] (lP 0 0 (nc (qd a)) b (fun _ b=>ac b [(0,0,2)] (nv (qd a)) (by rw[Db (by simpa using (by assumption:decide (a.den=1)=false))])))))
 have d:=oT c;exact ak (av (ag 5 b (GB 1 oM _ _ b.g) (fun _ _ b=>lP 0 0 (nc 1) b (fun _ b=>ac b [(0,0,2)] (nv 1) (by rw[show a.den=1 by simpa using (by assumption:decide (a.den=1)=true)])))))
theorem Ib (a:Rat)(w:World)(h:Hp)(g:G w h):CV 125 #[qv a] w h (iv a.num):=by
 have b:=sS g;exact go Tryz.func125 [(0,qv a)] rfl (av (lA 1 40 (qc a) b (fun c w2 i b=>lA 2 38 ([qF,uV 0,eS]) b (fun d j e b=>aI (lL b [.v 3 (pB c),.o 4 (iv a.num) 1 0 3] (lP 0 0 (ic a.num) b (fun f b=>ac b [(0,0,3)] (iv a.num) rfl)))))))
theorem jc (a:Rat)(ha:LQ 100000000 a)(w:World)(h:Hp)(g:G w h):CV 35 #[qv a] w h (iV a.num.sign):=by
 have b:=sS g;obtain ⟨e,c⟩:=ha;exact go Tryz.func35 [(0,qv a)] rfl (av (lA 1 40 (qc a) b (fun d w2 i b=>lL b [.v 2 (iV 0)] (aI (lL b [.v 3 (pB d),.o 4 (iv a.num) 0 0 3] (ag 5 b (kT a.num cC _ _ b.g) (fun f j b=>lL b [.m 2 5] (ac b [] (iV ((a.num).sign)) rfl))))))))
theorem C5 (z:Int)(h0 : -9223372036854775808≤z)(h1:z≤9223372036854775807)(w:World)(h:Hp)(g:G w h):CV 118 #[iV z] w h (qv (z:Rat)):=by
 have a:=sS g;exact go Tryz.func118 [(0,iV z)] rfl (av (lA 2 40 da a (fun c w2 f a=>aI (lL a [.m 3 0] (ag 4 a (JE z oM oM _ _ a.g) (fun e i a=>lL a [.v 5 (.agg #[.bool (ai z),uV (lo (ab z)),.string (hi (ab z)),uV 0,eS])] (lP 0 0 ([.bool (ai z),uV (lo (ab z)),.string (hi (ab z)),uV 0,eS]) a (fun b a=>ac a [(0,0,5)] (.agg #[.bool (ai z),uV (lo (ab z)),.string (hi (ab z)),uV 0,eS]) (hC (d:=0) (LU z) (l6 (LW z)))))))))))
theorem Hc (a:Rat)(ha:LQ 100000000 a)(w:World)(h:Hp)(g:G w h):CV 114 #[qv a] w h (qv (-a)):=by
 have b:=sS g;obtain ⟨e,d⟩:=ha;refine go Tryz.func114 [(0,qv a)] rfl (av (lA 1 40 (qc a) b (fun c w2 k b=>lA 2 40 da b (fun f l i b=>ah (cR 6 [] mixed b ar ?_)))));exact eV 0 3 (pB c) (eO 1 4 [(1,0,3)] (iv a.num) b (eV 3 6 (qP c 3) (eO 4 7 [(1,3,2)] (nv (qd a)) b (aq 2 5 b (fun _ _ b=>Gu a.num cC _ _ b.g) (fun j p b=>eV 5 8 (.agg #[.bool (ai (-a.num)),uV (lo (ab (-a.num))),.string (hi (ab (-a.num))),uV (lo (qd a)),.string (hi (qd a))]) (ck b (fun o _ b=>tP 6 0 0 ([.bool (ai (-a.num)),uV (lo (ab (-a.num))),.string (hi (ab (-a.num))),uV (lo (qd a)),.string (hi (qd a))]) b (fun _ b=>tN (kX (b.ret [(0,0,5)] (.agg #[.bool (ai (-a.num)),uV (lo (ab (-a.num))),.string (hi (ab (-a.num))),uV (lo (qd a)),.string (hi (qd a))]) (hC (LX a) (by unfold qd;rw[LY]))))))))))))
theorem rr (z:Int)(d:Nat)(o:0<d)(l:(wds (ab z)).length≤1000000000)(e:(wds d).length≤1000000000)(w:World)(h:Hp)(g:G w h)(y:Tab h):CV 87 #[iv z,nv d] w h (qv (mkRat z d)):=by
 have a:=((sS g).aB y);obtain ⟨b,c,i,k⟩:=hJ z d o;obtain ⟨q,hq⟩:∃ q,q=La (ab z) d:=⟨_,rfl⟩;rw[←hq] at b c i k
 have x:(wds q).length≤1000000000:=ax (by rw[hq];exact LZ _ o) e;have u:LQ 1000000000 (mkRat z d):=⟨by rw[b];exact ax (cf z q i) l,by rw[c];exact ax (JT _ _) e⟩;refine go Tryz.func87 [(0,iv z),(1,nv d)] rfl (av (lA 2 38 (ic z) a (fun D w2 F a=>lA 3 36 (nc d) a (fun J H C a=>lA 4 40 da a (fun I B K a=>ah ?_)))));have j:=a;refine cR 5 [⟨4,5,.cells (Lu [uV 0,eS]) 36 (0,0)⟩] mixed a (bW (fA kR (fun _ _=>by kernel_rfl)) ar) (eO 0 6 [(2,0,3)] (iv z) a (eO 1 7 [(1,0,2)] (nv d) a (aq 2 8 a (fun _ _ a=>dP d _ _ a.g) (fun _ _ a=>aq 3 9 a (fun _ _ a=>jw z (d:Int) q (by first|assumption|exact hq) cC (show (wds d).length≤1000000000 by first|assumption|omega) _ _ a.g a.f.1) (fun _ _ a=>iL [] j a 36 [uV 0,eS] (fun _ _ p a=>tP 5 0 0 (nc q) a (fun _ a=>tN (cQ (cR 7 [] mixed a ar ?_)))))))));exact eO 0 10 [(3,0,3)] (iv z) a (eO 1 11 [(0,0,2)] (nv q) a (eO 3 13 [(2,0,2)] (nv d) a (eO 4 14 [(0,0,2)] (nv q) a (aq 2 12 a (fun _ _ a=>kV z q aM aM cC cC _ _ a.g) (fun _ _ a=>aq 5 15 a (fun _ _ a=>gt d q aM cC cC _ _ a.g) (fun _ _ a=>aq 6 16 a (fun _ _ a=>jH (mkRat z d) (z/(q:Int)) (d/q) (by first|assumption|exact b|exact (b).symm) (by first|assumption|exact c.symm) aM _ _ a.g) (fun _ _ a=>ck a (fun _ _ a=>tP 7 1 0 (qc (mkRat z d)) a (fun _ a=>tN (kX (a.ret [(1,0,5)] (qv (mkRat z d)) rfl)))))))))))
theorem dC (a:Rat)(ha:LQ 100000000 a)(h1:a.den=1)(w:World)(h:Hp)(g:G w h):CV 34 #[qv a] w h (.bool true):=by
 have:=jh a ha w h g;rwa [decide_eq_true h1] at this
theorem fj (a:Rat)(ha:LQ 100000000 a)(h1:a.den≠1)(w:World)(h:Hp)(g:G w h):CV 34 #[qv a] w h (.bool false):=by
 have:=jh a ha w h g;rwa [decide_eq_false h1] at this
theorem Dc (x y z:Int)(e:z=x+y)(a:(wds (ab x)).length+(wds (ab y)).length≤999999999)(w:World)(h:Hp)(g:G w h):CV 159 #[iv x,iv y] w h (iv z):=by
 subst e;exact GM x y a w h g
theorem ir (x y:Int):(wds (ab (x*y))).length≤(wds (ab x)).length+(wds (ab y)).length:=by
 have:ab (x*y)=ab x*ab y:=Lx x y;rw[this];exact cY
theorem di (x:Int)(d:Nat):(wds (ab (x*((d:Nat):Int)))).length≤(wds (ab x)).length+(wds d).length:=ir x (d:Int)
theorem oE (x y:Int):(wds (ab (x+y))).length≤(wds (ab x)).length+(wds (ab y)).length+1 :=
 ez (cF (show ab (x+y)≤ab x+ab y from L0 x y)) j5
theorem iJ {a b:Rat}(ha:a.den=1)(c:b.den=1):(a+b).num=a.num+b.num∧(a+b).den=1:=by
 obtain ⟨e1,e2,f,e,d,h⟩:=kE a b 1 1 (a.num+b.num) (by rw[ha,c];rfl) (by rw[ha,c];simp) (by simp);rw[ha,c] at e2
 exact ⟨by simpa using e1,by simpa using e2⟩
theorem iH {a b:Rat}(ha:a.den=1)(c:b.den=1):(a*b).num=a.num*b.num∧(a*b).den=1:=by
 obtain ⟨e1,e2,f,e,d,h⟩:=ku a b 1 1 (by rw[c];simp) (by rw[ha];simp);rw[ha,c] at e2
 exact ⟨by simpa using e1,by simpa using e2⟩
theorem D5 (a b:Rat)(ha:LQ 100000000 a)(p:LQ 100000000 b)(f:a.den=1)(e:b.den=1)(w:World)(h:Hp)(g:G w h)(l:Tab h):CV 110 #[qv a,qv b] w h (qv (a+b)):=by
 have c:=((sS g).aB l);have j:=ha;have i:=p;obtain ⟨z,u⟩:=j;obtain ⟨y,B⟩:=i;exact go Tryz.func110 [(0,qv a),(1,qv b)] rfl (av (lA 2 40 (qc a) c (fun k w2 F c=>lA 3 40 (qc b) c (fun x H D c=>lA 4 40 da c (fun J C I c=>ah (aa c [.o 10 (qv a) 2 0 5] (ag 11 c (dC a aM aM _ _ c.g) (fun _ _ c=>lL c [.m 12 11,.o 13 (qv b) 1 0 5] (ag 14 c (dC b aM aM _ _ c.g) (fun _ _ c=>lL c [.v 15 qT] (ak (aa c [.v 16 (pB k),.o 17 (iv a.num) 2 0 3,.v 18 (pB x),.o 19 (iv b.num) 1 0 3] (ag 20 c (GM a.num b.num cC _ _ c.g) (fun _ _ c=>lL c [.v 21 (.agg #[.bool (ai (a.num+b.num)),uV (lo (ab (a.num+b.num))),.string (hi (ab (a.num+b.num))),uV 0,eS])] (lP 0 0 ([.bool (ai (a.num+b.num)),uV (lo (ab (a.num+b.num))),.string (hi (ab (a.num+b.num))),uV 0,eS]) c (fun _ c=>ac c [(0,0,5)] (.agg #[.bool (ai (a.num+b.num)),uV (lo (ab (a.num+b.num))),.string (hi (ab (a.num+b.num))),uV 0,eS]) (hC (d:=0) (iJ f e).1 (l6 (iJ f e).2))))))))))))))))))
theorem D0 (a b:Rat)(ha:LQ 100000000 a)(y:LQ 100000000 b)(X:a.den≠1)(w:World)(h:Hp)(g:G w h)(U:Tab h):CV 110 #[qv a,qv b] w h (qv (a+b)):=by
 have c:=((sS g).aB U);have B:=ha;have z:=y;obtain ⟨ha1,l⟩:=ha;obtain ⟨hb1,p⟩:=y;obtain ⟨q,hq⟩:∃ q,q=La a.den b.den:=⟨_,rfl⟩;obtain ⟨up,hup⟩:∃ up,up=a.num*((b.den/q:Nat):Int)+b.num*((a.den/q:Nat):Int):=⟨_,rfl⟩;obtain ⟨r,hr⟩:∃ r,r=La (ab up) q:=⟨_,rfl⟩;obtain ⟨e,k,u,V,L,hq0⟩:=kE a b q r up hq hup hr;have x:(wds q).length≤100000000:=ax (by rw[hq];exact Lt _ a.den_pos) l;have H:(wds r).length≤100000000:=ax (by rw[hr];exact LZ _ hq0) x;have D:(wds (a.den/q)).length≤100000000:=ax (JT _ _) l;have Y:(wds (b.den/q)).length≤100000000:=ax (JT _ _) p;have S:(wds (b.den/r)).length≤100000000:=ax (JT _ _) p;have M:=di a.num (b.den/q);have Q:=di b.num (a.den/q);have F:(wds (ab up)).length≤999999999:=ez (by rw[hup];exact oE _ _) oM;have W:=@cY (a.den/q) (b.den/r);have I:LQ 1000000000 (a+b):=⟨by rw[e];exact ax (cf up r u) oM,by rw[k];omega⟩;have ha:=B;have y:=z;refine go Tryz.func110 [(0,qv a),(1,qv b)] rfl (av (lA 2 40 (qc a) c (fun O w2 h3 c=>lA 3 40 (qc b) c (fun C w5 h6 c=>lA 4 40 da c (fun b7 w8 h9 c=>ah (aa c [.o 10 (qv a) 2 0 5] (ag 11 c (fj a aM aM _ _ c.g) (fun _ _ c=>lL c [.m 12 11] (lG 13 ?_)))))))));refine lG 14 (lL c [.v 15 qF] (af (cK (cQ ?_))));have d:=c;refine cR 8 [⟨7,5,.cells (Lu [uV 0,eS]) 36 (0,0)⟩] mixed c (bW (fA kR (fun _ _=>by kernel_rfl)) ar) (eO 0 22 [(2,0,5)] (qv a) c (eO 3 25 [(1,0,5)] (qv b) c (aq 1 23 c (fun _ _ c=>eT a aM _ _ c.g) (fun _ _ c=>aq 2 24 c (fun _ _ c=>dP a.den _ _ c.g) (fun _ _ c=>aq 4 26 c (fun _ _ c=>eT b aM _ _ c.g) (fun _ _ c=>aq 5 27 c (fun _ _ c=>dP b.den _ _ c.g) (fun _ _ c=>aq 6 28 c (fun _ _ c=>jw (a.den:Int) (b.den:Int) q (by first|assumption|exact hq) (show (wds a.den).length≤1000000000 by first|assumption|omega) (show (wds b.den).length≤1000000000 by first|assumption|omega) _ _ c.g c.f.1) (fun _ _ c=>iL [] d c 36 [uV 0,eS] (fun _ _ K c=>tP 8 0 0 (nc q) c (fun _ c=>tN (cQ ?_)))))))))));have d:=c;refine BR 10 [⟨8,6,.cells (Lu [uV 0,eS]) 36 (0,0)⟩,⟨9,7,.cells (Lu [uV 0,eS]) 36 (0,0)⟩] [] mixed c (bW (fA kR (fun _ _=>by kernel_rfl)) (bW (fA kR (fun _ _=>by kernel_rfl)) ar)) (eO 0 29 [(3,0,5)] (qv a) c (eO 2 31 [(0,0,2)] (nv q) c (ut 4 33 [(2,0,5)] (qv b) d c (ut 6 35 [(0,0,2)] (nv q) d c (aq 1 30 c (fun _ _ c=>eT a aM _ _ c.g) (fun _ _ c=>aq 3 32 c (fun _ _ c=>gt a.den q aM cC cC _ _ c.g) (fun _ _ c=>aq 5 34 c (fun _ _ c=>eT b aM _ _ c.g) (fun _ _ c=>aq 7 36 c (fun _ _ c=>gt b.den q aM cC cC _ _ c.g) (fun _ _ c=>DV d c 36 [uV 0,eS] 36 [uV 0,eS] (fun _ _ za Z i j c=>tP 10 0 0 (nc (a.den/q)) c (fun _ c=>?_) (hz:=ik i)))))))))));refine tP 11 1 0 (nc (b.den/q)) c (fun _ c=>?_) (hz:=ik j);refine tN (cQ ?_);have d:=c;refine cR 10 [⟨9,8,.cells (Lu [qF,uV 0,eS]) 38 (0,0)⟩] mixed c (bW (fA kR (fun _ _=>by kernel_rfl)) ar) (eV 0 37 (pB O) (eO 1 38 [(5,0,3)] (iv a.num) c (eO 2 39 [(1,0,2)] (nv (b.den/q)) c (eV 4 41 (pB C) (eO 5 42 [(4,0,3)] (iv b.num) c (eO 6 43 [(0,0,2)] (nv (a.den/q)) c (aq 3 40 c (fun _ _ c=>gZ a.num (b.den/q) cC _ _ c.g) (fun _ _ c=>aq 7 44 c (fun _ _ c=>gZ b.num (a.den/q) cC _ _ c.g) (fun _ _ c=>aq 8 45 c (fun _ _ c=>Dc (a.num*(((b.den/q):Nat):Int)) (b.num*(((a.den/q):Nat):Int)) up hup oM _ _ c.g) (fun _ _ c=>iL [] d c 38 [qF,uV 0,eS] (fun _ _ zb c=>tP 10 0 0 (ic up) c (fun _ c=>tN (cQ ?_)))))))))))));have d:=c;refine cR 5 [⟨4,9,.cells (Lu [uV 0,eS]) 36 (0,0)⟩] mixed c (bW (fA kR (fun _ _=>by kernel_rfl)) ar) (eO 0 46 [(0,0,3)] (iv up) c (eO 1 47 [(3,0,2)] (nv q) c (aq 2 48 c (fun _ _ c=>dP q _ _ c.g) (fun _ _ c=>aq 3 49 c (fun _ _ c=>jw up (q:Int) r (by first|assumption|exact hr) cC (show (wds q).length≤1000000000 by first|assumption|omega) _ _ c.g c.f.1) (fun _ _ c=>iL [] d c 36 [uV 0,eS] (fun _ _ J c=>tP 5 0 0 (nc r) c (fun _ c=>tN (bH [(3,pB C),(4,pB b7),(6,pB za),(8,pB zb),(9,pB J)] ?_))))))));refine cQ (cR 10 [] mixed c ar ?_);exact eO 0 50 [(1,0,3)] (iv up) c (eO 1 51 [(0,0,2)] (nv r) c (eO 3 53 [(2,0,2)] (nv (a.den/q)) c (eO 4 54 [(6,0,5)] (qv b) c (eO 6 56 [(0,0,2)] (nv r) c (aq 2 52 c (fun _ _ c=>kV up r aM aM cC cC _ _ c.g) (fun _ _ c=>aq 5 55 c (fun _ _ c=>eT b aM _ _ c.g) (fun _ _ c=>aq 7 57 c (fun _ _ c=>gt b.den r aM cC cC _ _ c.g) (fun _ _ c=>aq 8 58 c (fun _ _ c=>oR (a.den/q) (b.den/r) cC cC _ _ c.g) (fun _ _ c=>aq 9 59 c (fun _ _ c=>jH (a+b) (up/(r:Int)) ((a.den/q)*(b.den/r)) (by first|assumption|exact e|exact (e).symm) (by first|assumption|exact k.symm) aM _ _ c.g) (fun _ _ c=>ck c (fun _ _ c=>tP 10 5 0 (qc (a+b)) c (fun _ c=>tN (kX (c.ret [(5,0,5)] (qv (a+b)) rfl))))))))))))))
theorem D9 (a b:Rat)(ha:LQ 100000000 a)(y:LQ 100000000 b)(Z:a.den=1)(L:b.den≠1)(w:World)(h:Hp)(g:G w h)(W:Tab h):CV 110 #[qv a,qv b] w h (qv (a+b)):=by
 have c:=((sS g).aB W);have B:=ha;have z:=y;obtain ⟨ha1,k⟩:=ha;obtain ⟨hb1,l⟩:=y;obtain ⟨q,hq⟩:∃ q,q=La a.den b.den:=⟨_,rfl⟩;obtain ⟨up,hup⟩:∃ up,up=a.num*((b.den/q:Nat):Int)+b.num*((a.den/q:Nat):Int):=⟨_,rfl⟩;obtain ⟨r,hr⟩:∃ r,r=La (ab up) q:=⟨_,rfl⟩;obtain ⟨e,j,u,X,M,hq0⟩:=kE a b q r up hq hup hr;have x:(wds q).length≤100000000:=ax (by rw[hq];exact Lt _ a.den_pos) k;have H:(wds r).length≤100000000:=ax (by rw[hr];exact LZ _ hq0) x;have D:(wds (a.den/q)).length≤100000000:=ax (JT _ _) k;have hbq:(wds (b.den/q)).length≤100000000:=ax (JT _ _) l;have V:(wds (b.den/r)).length≤100000000:=ax (JT _ _) l;have O:=di a.num (b.den/q);have U:=di b.num (a.den/q);have F:(wds (ab up)).length≤999999999:=ez (by rw[hup];exact oE _ _) oM;have Y:=@cY (a.den/q) (b.den/r);have I:LQ 1000000000 (a+b):=⟨by rw[e];exact ax (cf up r u) oM,by rw[j];omega⟩;have ha:=B;have y:=z;refine go Tryz.func110 [(0,qv a),(1,qv b)] rfl (av (lA 2 40 (qc a) c (fun Q w2 h3 c=>lA 3 40 (qc b) c (fun C w5 h6 c=>lA 4 40 da c (fun b7 w8 h9 c=>ah (aa c [.o 10 (qv a) 2 0 5] (ag 11 c (dC a aM aM _ _ c.g) (fun _ _ c=>lL c [.m 12 11,.o 13 (qv b) 1 0 5] (ag 14 c (fj b aM aM _ _ c.g) (fun _ _ c=>lL c [.v 15 qF] (af (cK (cQ ?_)))))))))))));have d:=c;refine cR 8 [⟨7,5,.cells (Lu [uV 0,eS]) 36 (0,0)⟩] mixed c (bW (fA kR (fun _ _=>by kernel_rfl)) ar) (eO 0 22 [(2,0,5)] (qv a) c (eO 3 25 [(1,0,5)] (qv b) c (aq 1 23 c (fun _ _ c=>eT a aM _ _ c.g) (fun _ _ c=>aq 2 24 c (fun _ _ c=>dP a.den _ _ c.g) (fun _ _ c=>aq 4 26 c (fun _ _ c=>eT b aM _ _ c.g) (fun _ _ c=>aq 5 27 c (fun _ _ c=>dP b.den _ _ c.g) (fun _ _ c=>aq 6 28 c (fun _ _ c=>jw (a.den:Int) (b.den:Int) q (by first|assumption|exact hq) (show (wds a.den).length≤1000000000 by first|assumption|omega) (show (wds b.den).length≤1000000000 by first|assumption|omega) _ _ c.g c.f.1) (fun _ _ c=>iL [] d c 36 [uV 0,eS] (fun _ _ K c=>tP 8 0 0 (nc q) c (fun _ c=>tN (cQ ?_)))))))))));have d:=c;refine BR 10 [⟨8,6,.cells (Lu [uV 0,eS]) 36 (0,0)⟩,⟨9,7,.cells (Lu [uV 0,eS]) 36 (0,0)⟩] [] mixed c (bW (fA kR (fun _ _=>by kernel_rfl)) (bW (fA kR (fun _ _=>by kernel_rfl)) ar)) (eO 0 29 [(3,0,5)] (qv a) c (eO 2 31 [(0,0,2)] (nv q) c (ut 4 33 [(2,0,5)] (qv b) d c (ut 6 35 [(0,0,2)] (nv q) d c (aq 1 30 c (fun _ _ c=>eT a aM _ _ c.g) (fun _ _ c=>aq 3 32 c (fun _ _ c=>gt a.den q aM cC cC _ _ c.g) (fun _ _ c=>aq 5 34 c (fun _ _ c=>eT b aM _ _ c.g) (fun _ _ c=>aq 7 36 c (fun _ _ c=>gt b.den q aM cC cC _ _ c.g) (fun _ _ c=>DV d c 36 [uV 0,eS] 36 [uV 0,eS] (fun _ _ za S p i c=>tP 10 0 0 (nc (a.den/q)) c (fun _ c=>?_) (hz:=ik p)))))))))));refine tP 11 1 0 (nc (b.den/q)) c (fun _ c=>?_) (hz:=ik i);refine tN (cQ ?_);have d:=c;refine cR 10 [⟨9,8,.cells (Lu [qF,uV 0,eS]) 38 (0,0)⟩] mixed c (bW (fA kR (fun _ _=>by kernel_rfl)) ar) (eV 0 37 (pB Q) (eO 1 38 [(5,0,3)] (iv a.num) c (eO 2 39 [(1,0,2)] (nv (b.den/q)) c (eV 4 41 (pB C) (eO 5 42 [(4,0,3)] (iv b.num) c (eO 6 43 [(0,0,2)] (nv (a.den/q)) c (aq 3 40 c (fun _ _ c=>gZ a.num (b.den/q) cC _ _ c.g) (fun _ _ c=>aq 7 44 c (fun _ _ c=>gZ b.num (a.den/q) cC _ _ c.g) (fun _ _ c=>aq 8 45 c (fun _ _ c=>Dc (a.num*(((b.den/q):Nat):Int)) (b.num*(((a.den/q):Nat):Int)) up hup oM _ _ c.g) (fun _ _ c=>iL [] d c 38 [qF,uV 0,eS] (fun _ _ zb c=>tP 10 0 0 (ic up) c (fun _ c=>tN (cQ ?_)))))))))))));have d:=c;refine cR 5 [⟨4,9,.cells (Lu [uV 0,eS]) 36 (0,0)⟩] mixed c (bW (fA kR (fun _ _=>by kernel_rfl)) ar) (eO 0 46 [(0,0,3)] (iv up) c (eO 1 47 [(3,0,2)] (nv q) c (aq 2 48 c (fun _ _ c=>dP q _ _ c.g) (fun _ _ c=>aq 3 49 c (fun _ _ c=>jw up (q:Int) r (by first|assumption|exact hr) cC (show (wds q).length≤1000000000 by first|assumption|omega) _ _ c.g c.f.1) (fun _ _ c=>iL [] d c 36 [uV 0,eS] (fun _ _ J c=>tP 5 0 0 (nc r) c (fun _ c=>tN (bH [(3,pB C),(4,pB b7),(6,pB za),(8,pB zb),(9,pB J)] ?_))))))));refine cQ (cR 10 [] mixed c ar ?_);exact eO 0 50 [(1,0,3)] (iv up) c (eO 1 51 [(0,0,2)] (nv r) c (eO 3 53 [(2,0,2)] (nv (a.den/q)) c (eO 4 54 [(6,0,5)] (qv b) c (eO 6 56 [(0,0,2)] (nv r) c (aq 2 52 c (fun _ _ c=>kV up r aM aM cC cC _ _ c.g) (fun _ _ c=>aq 5 55 c (fun _ _ c=>eT b aM _ _ c.g) (fun _ _ c=>aq 7 57 c (fun _ _ c=>gt b.den r aM cC cC _ _ c.g) (fun _ _ c=>aq 8 58 c (fun _ _ c=>oR (a.den/q) (b.den/r) cC cC _ _ c.g) (fun _ _ c=>aq 9 59 c (fun _ _ c=>jH (a+b) (up/(r:Int)) ((a.den/q)*(b.den/r)) (by first|assumption|exact e|exact (e).symm) (by first|assumption|exact j.symm) aM _ _ c.g) (fun _ _ c=>ck c (fun _ _ c=>tP 10 5 0 (qc (a+b)) c (fun _ c=>tN (kX (c.ret [(5,0,5)] (qv (a+b)) rfl))))))))))))))
theorem Fn (a b:Rat)(ha:LQ 100000000 a)(c:LQ 100000000 b)(w:World)(h:Hp)(g:G w h)(d:Tab h):CV 110 #[qv a,qv b] w h (qv (a+b)):=by
 by_cases h1:a.den=1
 ·by_cases h2:b.den=1
  ·exact D5 a b ha c h1 h2 w h g d
  ·exact D9 a b ha c h1 h2 w h g d
 ·exact D0 a b ha c h1 w h g d
theorem Fe (a b:Rat)(ha:LQ 100000000 a)(p:LQ 100000000 b)(f:a.den=1)(e:b.den=1)(w:World)(h:Hp)(g:G w h)(l:Tab h):CV 112 #[qv a,qv b] w h (qv (a*b)):=by
 have c:=((sS g).aB l);have j:=ha;have i:=p;obtain ⟨z,u⟩:=j;obtain ⟨y,B⟩:=i;exact go Tryz.func112 [(0,qv a),(1,qv b)] rfl (av (lA 2 40 (qc a) c (fun k w2 F c=>lA 3 40 (qc b) c (fun x H D c=>lA 4 40 da c (fun J C I c=>ah (aa c [.o 7 (qv a) 2 0 5] (ag 8 c (dC a aM aM _ _ c.g) (fun _ _ c=>lL c [.m 9 8,.o 10 (qv b) 1 0 5] (ag 11 c (dC b aM aM _ _ c.g) (fun _ _ c=>lL c [.v 12 qT] (ak (aa c [.v 13 (pB k),.o 14 (iv a.num) 2 0 3,.v 15 (pB x),.o 16 (iv b.num) 1 0 3] (ag 17 c (B3 a.num b.num cC _ _ c.g) (fun _ _ c=>lL c [.v 18 (.agg #[.bool (ai (a.num*b.num)),uV (lo (ab (a.num*b.num))),.string (hi (ab (a.num*b.num))),uV 0,eS])] (lP 0 0 ([.bool (ai (a.num*b.num)),uV (lo (ab (a.num*b.num))),.string (hi (ab (a.num*b.num))),uV 0,eS]) c (fun _ c=>ac c [(0,0,5)] (.agg #[.bool (ai (a.num*b.num)),uV (lo (ab (a.num*b.num))),.string (hi (ab (a.num*b.num))),uV 0,eS]) (hC (d:=0) (iH f e).1 (l6 (iH f e).2))))))))))))))))))
theorem DO (a b:Rat)(ha:LQ 100000000 a)(x:LQ 100000000 b)(V:a.den≠1)(w:World)(h:Hp)(g:G w h)(S:Tab h):CV 112 #[qv a,qv b] w h (qv (a*b)):=by
 have c:=((sS g).aB S);have p:=ha;have y:=x;obtain ⟨B,j⟩:=ha;obtain ⟨z,k⟩:=x;obtain ⟨q,hq⟩:∃ q,q=La (ab a.num) b.den:=⟨_,rfl⟩;obtain ⟨r,hr⟩:∃ r,r=La (ab b.num) a.den:=⟨_,rfl⟩;obtain ⟨e,i,l,u,hq0,L⟩:=ku a b q r hq hr;have M:(wds q).length≤100000000:=ax (by rw[hq];exact LZ _ b.den_pos) k;have I:(wds r).length≤100000000:=ax (by rw[hr];exact LZ _ a.den_pos) j;have F:(wds (ab (a.num/(q:Int)))).length≤100000000:=ax (cf _ _ l) B;have Q:(wds (ab (b.num/(r:Int)))).length≤100000000:=ax (cf _ _ u) z;have K:(wds (a.den/r)).length≤100000000:=ax (JT _ _) j;have W:(wds (b.den/q)).length≤100000000:=ax (JT _ _) k;have U:=@cY (a.den/r) (b.den/q);have X:=ir (a.num/(q:Int)) (b.num/(r:Int));have J:LQ 1000000000 (a*b):=⟨by rw[e];omega,by rw[i];omega⟩;have ha:=p;have x:=y;refine go Tryz.func112 [(0,qv a),(1,qv b)] rfl (av (lA 2 40 (qc a) c (fun C w2 h3 c=>lA 3 40 (qc b) c (fun D w5 h6 c=>lA 4 40 da c (fun Y Z h9 c=>ah (aa c [.o 7 (qv a) 2 0 5] (ag 8 c (fj a aM aM _ _ c.g) (fun _ _ c=>lL c [.m 9 8] (lG 10 ?_)))))))));refine lG 11 (lL c [.v 12 qF] (af (cK (cQ ?_))));have d:=c;refine cR 7 [⟨6,5,.cells (Lu [uV 0,eS]) 36 (0,0)⟩] mixed c (bW (fA kR (fun _ _=>by kernel_rfl)) ar) (eV 0 19 (pB C) (eO 1 20 [(2,0,3)] (iv a.num) c (eO 2 21 [(1,0,5)] (qv b) c (aq 3 22 c (fun _ _ c=>eT b aM _ _ c.g) (fun _ _ c=>aq 4 23 c (fun _ _ c=>dP b.den _ _ c.g) (fun _ _ c=>aq 5 24 c (fun _ _ c=>jw a.num (b.den:Int) q (by first|assumption|exact hq) cC (show (wds b.den).length≤1000000000 by first|assumption|omega) _ _ c.g c.f.1) (fun _ _ c=>iL [] d c 36 [uV 0,eS] (fun _ _ O c=>tP 7 0 0 (nc q) c (fun _ c=>tN (cQ ?_))))))))));have d:=c;refine cR 7 [⟨6,6,.cells (Lu [uV 0,eS]) 36 (0,0)⟩] mixed c (bW (fA kR (fun _ _=>by kernel_rfl)) ar) (eV 0 25 (pB D) (eO 1 26 [(2,0,3)] (iv b.num) c (eO 2 27 [(3,0,5)] (qv a) c (aq 3 28 c (fun _ _ c=>eT a aM _ _ c.g) (fun _ _ c=>aq 4 29 c (fun _ _ c=>dP a.den _ _ c.g) (fun _ _ c=>aq 5 30 c (fun _ _ c=>jw b.num (a.den:Int) r (by first|assumption|exact hr) cC (show (wds a.den).length≤1000000000 by first|assumption|omega) _ _ c.g c.f.1) (fun _ _ c=>iL [] d c 36 [uV 0,eS] (fun _ _ H c=>tP 7 0 0 (nc r) c (fun _ c=>tN (cQ (cR 19 [] mixed c ar ?_)))))))))));refine eV 0 31 (pB C) (eO 1 32 [(4,0,3)] (iv a.num) c (eO 2 33 [(1,0,2)] (nv q) c (eV 4 35 (pB D) (eO 5 36 [(3,0,3)] (iv b.num) c (eO 6 37 [(0,0,2)] (nv r) c (eO 9 40 [(4,0,5)] (qv a) c (eO 11 42 [(0,0,2)] (nv r) c (eO 13 44 [(3,0,5)] (qv b) c (eO 15 46 [(1,0,2)] (nv q) c (aq 3 34 c (fun _ _ c=>kV a.num q aM aM cC cC _ _ c.g) (fun _ _ c=>aq 7 38 c (fun _ _ c=>kV b.num r aM aM cC cC _ _ c.g) (fun _ _ c=>aq 8 39 c (fun _ _ c=>B3 (a.num/(q:Int)) (b.num/(r:Int)) cC _ _ c.g) (fun _ _ c=>aq 10 41 c (fun _ _ c=>eT a aM _ _ c.g) (fun _ _ c=>aq 12 43 c (fun _ _ c=>gt a.den r aM cC cC _ _ c.g) (fun _ _ c=>aq 14 45 c (fun _ _ c=>eT b aM _ _ c.g) (fun _ _ c=>aq 16 47 c (fun _ _ c=>gt b.den q aM cC cC _ _ c.g) (fun _ _ c=>aq 17 48 c (fun _ _ c=>oR (a.den/r) (b.den/q) cC cC _ _ c.g) (fun _ _ c=>aq 18 49 c (fun _ _ c=>jH (a*b) ((a.num/(q:Int))*(b.num/(r:Int))) ((a.den/r)*(b.den/q)) (by first|assumption|exact e|exact (e).symm) (by first|assumption|exact i.symm) aM _ _ c.g) (fun _ _ c=>ck c (fun _ _ c=>tP 19 2 0 (qc (a*b)) c (fun _ c=>tN (bH [(4,pB Y)] ?_))))))))))))))))))))));exact kX (c.ret [(2,0,5)] (qv (a*b)) rfl)
theorem Dz (a b:Rat)(ha:LQ 100000000 a)(x:LQ 100000000 b)(W:a.den=1)(L:b.den≠1)(w:World)(h:Hp)(g:G w h)(U:Tab h):CV 112 #[qv a,qv b] w h (qv (a*b)):=by
 have c:=((sS g).aB U);have p:=ha;have y:=x;obtain ⟨B,j⟩:=ha;obtain ⟨z,k⟩:=x;obtain ⟨q,hq⟩:∃ q,q=La (ab a.num) b.den:=⟨_,rfl⟩;obtain ⟨r,hr⟩:∃ r,r=La (ab b.num) a.den:=⟨_,rfl⟩;obtain ⟨e,i,l,u,hq0,O⟩:=ku a b q r hq hr;have Q:(wds q).length≤100000000:=ax (by rw[hq];exact LZ _ b.den_pos) k;have H:(wds r).length≤100000000:=ax (by rw[hr];exact LZ _ a.den_pos) j;have F:(wds (ab (a.num/(q:Int)))).length≤100000000:=ax (cf _ _ l) B;have S:(wds (ab (b.num/(r:Int)))).length≤100000000:=ax (cf _ _ u) z;have M:(wds (a.den/r)).length≤100000000:=ax (JT _ _) j;have X:(wds (b.den/q)).length≤100000000:=ax (JT _ _) k;have V:=@cY (a.den/r) (b.den/q);have Y:=ir (a.num/(q:Int)) (b.num/(r:Int));have K:LQ 1000000000 (a*b):=⟨by rw[e];omega,by rw[i];omega⟩;have ha:=p;have x:=y;refine go Tryz.func112 [(0,qv a),(1,qv b)] rfl (av (lA 2 40 (qc a) c (fun C w2 h3 c=>lA 3 40 (qc b) c (fun D w5 h6 c=>lA 4 40 da c (fun Z w8 h9 c=>ah (aa c [.o 7 (qv a) 2 0 5] (ag 8 c (dC a aM aM _ _ c.g) (fun _ _ c=>lL c [.m 9 8,.o 10 (qv b) 1 0 5] (ag 11 c (fj b aM aM _ _ c.g) (fun _ _ c=>lL c [.v 12 qF] (af (cK (cQ ?_)))))))))))));have d:=c;refine cR 7 [⟨6,5,.cells (Lu [uV 0,eS]) 36 (0,0)⟩] mixed c (bW (fA kR (fun _ _=>by kernel_rfl)) ar) (eV 0 19 (pB C) (eO 1 20 [(2,0,3)] (iv a.num) c (eO 2 21 [(1,0,5)] (qv b) c (aq 3 22 c (fun _ _ c=>eT b aM _ _ c.g) (fun _ _ c=>aq 4 23 c (fun _ _ c=>dP b.den _ _ c.g) (fun _ _ c=>aq 5 24 c (fun _ _ c=>jw a.num (b.den:Int) q (by first|assumption|exact hq) cC (show (wds b.den).length≤1000000000 by first|assumption|omega) _ _ c.g c.f.1) (fun _ _ c=>iL [] d c 36 [uV 0,eS] (fun _ _ J c=>tP 7 0 0 (nc q) c (fun _ c=>tN (cQ ?_))))))))));have d:=c;refine cR 7 [⟨6,6,.cells (Lu [uV 0,eS]) 36 (0,0)⟩] mixed c (bW (fA kR (fun _ _=>by kernel_rfl)) ar) (eV 0 25 (pB D) (eO 1 26 [(2,0,3)] (iv b.num) c (eO 2 27 [(3,0,5)] (qv a) c (aq 3 28 c (fun _ _ c=>eT a aM _ _ c.g) (fun _ _ c=>aq 4 29 c (fun _ _ c=>dP a.den _ _ c.g) (fun _ _ c=>aq 5 30 c (fun _ _ c=>jw b.num (a.den:Int) r (by first|assumption|exact hr) cC (show (wds a.den).length≤1000000000 by first|assumption|omega) _ _ c.g c.f.1) (fun _ _ c=>iL [] d c 36 [uV 0,eS] (fun _ _ I c=>tP 7 0 0 (nc r) c (fun _ c=>tN (cQ (cR 19 [] mixed c ar ?_)))))))))));refine eV 0 31 (pB C) (eO 1 32 [(4,0,3)] (iv a.num) c (eO 2 33 [(1,0,2)] (nv q) c (eV 4 35 (pB D) (eO 5 36 [(3,0,3)] (iv b.num) c (eO 6 37 [(0,0,2)] (nv r) c (eO 9 40 [(4,0,5)] (qv a) c (eO 11 42 [(0,0,2)] (nv r) c (eO 13 44 [(3,0,5)] (qv b) c (eO 15 46 [(1,0,2)] (nv q) c (aq 3 34 c (fun _ _ c=>kV a.num q aM aM cC cC _ _ c.g) (fun _ _ c=>aq 7 38 c (fun _ _ c=>kV b.num r aM aM cC cC _ _ c.g) (fun _ _ c=>aq 8 39 c (fun _ _ c=>B3 (a.num/(q:Int)) (b.num/(r:Int)) cC _ _ c.g) (fun _ _ c=>aq 10 41 c (fun _ _ c=>eT a aM _ _ c.g) (fun _ _ c=>aq 12 43 c (fun _ _ c=>gt a.den r aM cC cC _ _ c.g) (fun _ _ c=>aq 14 45 c (fun _ _ c=>eT b aM _ _ c.g) (fun _ _ c=>aq 16 47 c (fun _ _ c=>gt b.den q aM cC cC _ _ c.g) (fun _ _ c=>aq 17 48 c (fun _ _ c=>oR (a.den/r) (b.den/q) cC cC _ _ c.g) (fun _ _ c=>aq 18 49 c (fun _ _ c=>jH (a*b) ((a.num/(q:Int))*(b.num/(r:Int))) ((a.den/r)*(b.den/q)) (by first|assumption|exact e|exact (e).symm) (by first|assumption|exact i.symm) aM _ _ c.g) (fun _ _ c=>ck c (fun _ _ c=>tP 19 2 0 (qc (a*b)) c (fun _ c=>tN (bH [(4,pB Z)] ?_))))))))))))))))))))));exact kX (c.ret [(2,0,5)] (qv (a*b)) rfl)
theorem wT (a b:Rat)(ha:LQ 100000000 a)(c:LQ 100000000 b)(w:World)(h:Hp)(g:G w h)(d:Tab h):CV 112 #[qv a,qv b] w h (qv (a*b)):=by
 by_cases h1:a.den=1
 ·by_cases h2:b.den=1
  ·exact Fe a b ha c h1 h2 w h g d
  ·exact Dz a b ha c h1 h2 w h g d
 ·exact DO a b ha c h1 w h g d
theorem LQ.neg {k:Nat}{a:Rat}(h:LQ k a):LQ k (-a):=⟨by rw[LX];unfold ab;rw[L1];exact h.1,by rw[LY];exact h.2⟩
theorem Is (a b:Rat)(ha:LQ 100000000 a)(i:LQ 100000000 b)(w:World)(h:Hp)(g:G w h)(e:Tab h):CV 111 #[qv a,qv b] w h (qv (a-b)):=by
 have c:=((sS g).aB e);have d:=i.neg;refine go Tryz.func111 [(0,qv a),(1,qv b)] rfl (av (lA 2 40 (qc a) c (fun l w2 o c=>lA 3 40 (qc b) c (fun u p k c=>lA 4 40 da c (fun y j x c=>ah (cR 4 [] mixed c ar ?_))))));exact eO 0 5 [(2,0,5)] (qv a) c (eO 1 6 [(1,0,5)] (qv b) c (aq 2 7 c (fun _ _ c=>Hc b aM _ _ c.g) (fun _ _ c=>aq 3 8 c (fun _ _ c=>Fn a (-b) aM aM _ _ c.g c.f.1) (fun _ _ c=>ck c (fun _ _ c=>tP 4 0 0 (qc (a+(-b))) c (fun _ c=>tN (kX (c.ret [(0,0,5)] (qv (a+(-b))) (by rw[L2])))))))))
theorem LQ.add {k l:Nat}{a b:Rat}(ha:LQ k a)(z:LQ l b):LQ (k+l+1) (a+b):=by
 obtain ⟨D,f⟩:=ha;obtain ⟨C,c⟩:=z;obtain ⟨q,hq⟩:∃ q,q=La a.den b.den:=⟨_,rfl⟩;obtain ⟨up,hup⟩:∃ up,up=a.num*((b.den/q:Nat):Int)+b.num*((a.den/q:Nat):Int):=⟨_,rfl⟩;obtain ⟨r,hr⟩:∃ r,r=La (ab up) q:=⟨_,rfl⟩;obtain ⟨h,d,e,x,j,hq0⟩:=kE a b q r up hq hup hr;have i:=ax (JT a.den q) f;have B:=ax (JT b.den q) c;have u:=ax (JT b.den r) c;have o:=di a.num (b.den/q);have p:=di b.num (a.den/q);have y:=@cY (a.den/q) (b.den/r);refine ⟨?_,by rw[d];omega⟩;rw[h];refine ax (cf up r e) ?_;rw[hup];exact ez (cF (show ab _≤ab _+ab _ from L0 _ _)) (ph oM oM)
theorem LQ.mul {k l:Nat}{a b:Rat}(ha:LQ k a)(p:LQ l b):LQ (k+l) (a*b):=by
 obtain ⟨i,c⟩:=ha;obtain ⟨h,f⟩:=p;obtain ⟨e,d,o,j,hq0,u⟩:=ku a b _ _ rfl rfl;refine ⟨?_,?_⟩
 ·rw[e]
  have h1:=ax (cf _ _ o) i;have x:=ax (cf _ _ j) h;exact ez (ir _ _) oM
 ·rw[d]
  have h1:=ax (JT a.den (La (ab b.num) a.den)) c;have x:=ax (JT b.den (La (ab a.num) b.den)) f;exact ez cY oM
theorem LQ.mono {k l:Nat}{a:Rat}(h:LQ k a)(b:k≤l):LQ l a:=⟨ez h.1 b,ez h.2 b⟩
def cX (a b:Rat):Int:=dJ (a.num*b.den) (b.num*a.den)
theorem fF {a b:Rat}(h1:a.den=1)(c:b.den=1):dJ a.num b.num=cX a b:=by unfold cX;rw[h1,c];simp
theorem fZ {a b:Rat}(h:(a.num.sign != b.num.sign)=true):dJ a.num b.num=cX a b:=by
 have h:a.num.sign≠b.num.sign:=by simpa using h
 have ha:=a.den_pos;have e:=b.den_pos
 unfold cX dJ
 rcases LB a.num 0 with p|p|p<;>rcases LB b.num 0 with q|q|q
 ·exact MO (by rw[LC p,LC q]) h
 ·have:a.num*(b.den:Int)<0:=L3 p oM
  rw[q];simp;rw[MN p,MN this]
 ·have d:a.num*(b.den:Int)<0:=L3 p oM
  have c:0<b.num*(a.den:Int):=L4 q oM;rw[MN oM,MN oM]
 ·have:b.num*(a.den:Int)<0:=L3 q oM
  rw[p];simp;rw[MM oM,MN q,MM oM,MN this]
 ·exact MO (by rw[p,q]) h
 ·have:0<b.num*(a.den:Int):=L4 q oM
  rw[p];simp;rw[MN q,MN this]
 ·have d:0<a.num*(b.den:Int):=L4 p oM
  have c:b.num*(a.den:Int)<0:=L3 q oM;rw[MM oM,MN oM,MM oM,MN oM]
 ·have:0<a.num*(b.den:Int):=L4 p oM
  rw[q];simp;rw[MM oM,MN p,MM oM,MN this]
 ·exact MO (by rw[LD p,LD q]) h
theorem Em (a b:Rat)(ha:LQ 100000000 a)(p:LQ 100000000 b)(e:a.den=1)(d:b.den=1)(w:World)(h:Hp)(g:G w h):CV 13 #[qv a,qv b] w h (iV (cX a b)):=by
 have c:=sS g;have i:=ha;have f:=p;obtain ⟨z,u⟩:=i;obtain ⟨y,B⟩:=f;have j:=di a.num b.den;have l:=di b.num a.den;refine go Tryz.func13 [(0,qv a),(1,qv b)] rfl (av (lA 2 40 (qc a) c (fun k w2 F c=>lA 3 40 (qc b) c (fun x H C c=>lL c [.v 4 (iV 0)] (ah (cQ (cR 13 [] mixed c ar ?_)))))));exact eO 0 5 [(1,0,5)] (qv a) c (aq 1 6 c (fun _ _ c=>dC a aM aM _ _ c.g) (fun D J c=>eV 2 7 qT (eO 3 8 [(0,0,5)] (qv b) c (aq 4 9 c (fun _ _ c=>dC b aM aM _ _ c.g) (fun I _ c=>eV 5 10 qT (eV 6 11 qT (eG 7 12 (eG 8 13 (eG 9 14 (eG 10 15 (eG 11 16 (eV 12 17 qT (ck c (fun _ _ c=>tN (ce (aa c [.v 18 (pB k),.o 19 (iv a.num) 1 0 3,.v 20 (pB x),.o 21 (iv b.num) 0 0 3] (ag 22 c (uH a.num b.num cC cC _ _ c.g) (fun _ _ c=>lL c [.m 4 22] (ac c [] (iV (dJ a.num b.num)) (congrArg (Lp .i64) (by first|rfl|exact fF e d|exact fZ ‹_›)))))))))))))))))))))
theorem Ec (a b:Rat)(ha:LQ 100000000 a)(p:LQ 100000000 b)(d:a.den≠1)(w:World)(h:Hp)(g:G w h):CV 13 #[qv a,qv b] w h (iV (cX a b)):=by
 have c:=sS g;have f:=ha;have e:=p;obtain ⟨y,u⟩:=f;obtain ⟨x,z⟩:=e;have k:=di a.num b.den;have l:=di b.num a.den;refine go Tryz.func13 [(0,qv a),(1,qv b)] rfl (av (lA 2 40 (qc a) c (fun i w2 D c=>lA 3 40 (qc b) c (fun j F B c=>lL c [.v 4 (iV 0)] (ah (cQ (cR 13 [] mixed c ar ?_)))))));refine eO 0 5 [(1,0,5)] (qv a) c (aq 1 6 c (fun _ _ c=>fj a aM aM _ _ c.g) (fun C I c=>eV 2 7 qF (eG 3 8 (eG 4 9 (eV 5 10 qF (eV 6 11 qF (eO 7 12 [(1,0,5)] (qv a) c (eO 9 14 [(0,0,5)] (qv b) c (aq 8 13 c (fun _ _ c=>jc a aM _ _ c.g) (fun H _ c=>aq 10 15 c (fun _ _ c=>jc b aM _ _ c.g) (fun _ _ c=>?_)))))))))));cases za:(((a.num).sign:Int) != ((b.num).sign:Int))
 ·
  have zb:=aJ za;refine eB 11 16 za (eV 12 17 qF (ck c (fun _ _ c=>tN (cv (cK (cQ (cR 11 [] mixed c ar ?_)))))));exact eV 0 23 (pB i) (eO 1 24 [(1,0,3)] (iv a.num) c (eO 2 25 [(0,0,5)] (qv b) c (eV 5 28 (pB j) (eO 6 29 [(0,0,3)] (iv b.num) c (eO 7 30 [(1,0,5)] (qv a) c (aq 3 26 c (fun _ _ c=>eT b aM _ _ c.g) (fun _ _ c=>aq 4 27 c (fun _ _ c=>gZ a.num b.den cC _ _ c.g) (fun _ _ c=>aq 8 31 c (fun _ _ c=>eT a aM _ _ c.g) (fun _ _ c=>aq 9 32 c (fun _ _ c=>gZ b.num a.den cC _ _ c.g) (fun _ _ c=>aq 10 33 c (fun _ _ c=>uH (a.num*(b.den:Int)) (b.num*(a.den:Int)) cC cC _ _ c.g) (fun _ _ c=>ck c (fun _ _ c=>tV 11 4 (iV (dJ (a.num*(b.den:Int)) (b.num*(a.den:Int)))) (tN (kX (c.ret [] (iV (dJ (a.num*(b.den:Int)) (b.num*(a.den:Int)))) (congrArg (Lp .i64) (by first|rfl|exact fF d hwb|exact fZ ‹_›)))))))))))))))))
 have zb:=aW za;exact eB 11 16 za (eV 12 17 qT (ck c (fun _ _ c=>tN (ce (aa c [.v 18 (pB i),.o 19 (iv a.num) 1 0 3,.v 20 (pB j),.o 21 (iv b.num) 0 0 3] (ag 22 c (uH a.num b.num cC cC _ _ c.g) (fun _ _ c=>lL c [.m 4 22] (ac c [] (iV (dJ a.num b.num)) (congrArg (Lp .i64) (by first|rfl|exact fF d hwb|exact fZ ‹_›))))))))))
theorem Eu (a b:Rat)(ha:LQ 100000000 a)(u:LQ 100000000 b)(e:a.den=1)(d:b.den≠1)(w:World)(h:Hp)(g:G w h):CV 13 #[qv a,qv b] w h (iV (cX a b)):=by
 have c:=sS g;have i:=ha;have f:=u;obtain ⟨z,x⟩:=i;obtain ⟨y,B⟩:=f;have l:=di a.num b.den;have p:=di b.num a.den;refine go Tryz.func13 [(0,qv a),(1,qv b)] rfl (av (lA 2 40 (qc a) c (fun j w2 F c=>lA 3 40 (qc b) c (fun k H C c=>lL c [.v 4 (iV 0)] (ah (cQ (cR 13 [] mixed c ar ?_)))))));refine eO 0 5 [(1,0,5)] (qv a) c (aq 1 6 c (fun _ _ c=>dC a aM aM _ _ c.g) (fun D J c=>eV 2 7 qT (eO 3 8 [(0,0,5)] (qv b) c (aq 4 9 c (fun _ _ c=>fj b aM aM _ _ c.g) (fun I _ c=>eV 5 10 qF (eV 6 11 qF (eO 7 12 [(1,0,5)] (qv a) c (eO 9 14 [(0,0,5)] (qv b) c (aq 8 13 c (fun _ _ c=>jc a aM _ _ c.g) (fun _ _ c=>aq 10 15 c (fun _ _ c=>jc b aM _ _ c.g) (fun _ _ c=>?_)))))))))));cases za:(((a.num).sign:Int) != ((b.num).sign:Int))
 ·
  have zb:=aJ za;refine eB 11 16 za (eV 12 17 qF (ck c (fun _ _ c=>tN (cv (cK (cQ (cR 11 [] mixed c ar ?_)))))));exact eV 0 23 (pB j) (eO 1 24 [(1,0,3)] (iv a.num) c (eO 2 25 [(0,0,5)] (qv b) c (eV 5 28 (pB k) (eO 6 29 [(0,0,3)] (iv b.num) c (eO 7 30 [(1,0,5)] (qv a) c (aq 3 26 c (fun _ _ c=>eT b aM _ _ c.g) (fun _ _ c=>aq 4 27 c (fun _ _ c=>gZ a.num b.den cC _ _ c.g) (fun _ _ c=>aq 8 31 c (fun _ _ c=>eT a aM _ _ c.g) (fun _ _ c=>aq 9 32 c (fun _ _ c=>gZ b.num a.den cC _ _ c.g) (fun _ _ c=>aq 10 33 c (fun _ _ c=>uH (a.num*(b.den:Int)) (b.num*(a.den:Int)) cC cC _ _ c.g) (fun _ _ c=>ck c (fun _ _ c=>tV 11 4 (iV (dJ (a.num*(b.den:Int)) (b.num*(a.den:Int)))) (tN (kX (c.ret [] (iV (dJ (a.num*(b.den:Int)) (b.num*(a.den:Int)))) (congrArg (Lp .i64) (by first|rfl|exact fF e d|exact fZ ‹_›)))))))))))))))))
 have zb:=aW za;exact eB 11 16 za (eV 12 17 qT (ck c (fun _ _ c=>tN (ce (aa c [.v 18 (pB j),.o 19 (iv a.num) 1 0 3,.v 20 (pB k),.o 21 (iv b.num) 0 0 3] (ag 22 c (uH a.num b.num cC cC _ _ c.g) (fun _ _ c=>lL c [.m 4 22] (ac c [] (iV (dJ a.num b.num)) (congrArg (Lp .i64) (by first|rfl|exact fF e d|exact fZ ‹_›))))))))))
theorem uE (a b:Rat)(ha:LQ 100000000 a)(c:LQ 100000000 b)(w:World)(h:Hp)(g:G w h):CV 13 #[qv a,qv b] w h (iV (cX a b)):=by
 by_cases h1:a.den=1
 ·by_cases h2:b.den=1
  ·exact Em a b ha c h1 h2 w h g
  ·exact Eu a b ha c h1 h2 w h g
 ·exact Ec a b ha c h1 w h g
theorem iA {a b:Rat}:cX a b<0↔a<b:=by
 unfold cX dJ
 rw[Rat.lt_iff]
 split
 ·simp;assumption
 ·split<;>simp<;>omega
theorem iq {a b:Rat}:cX a b>0↔b<a:=by
 unfold cX dJ
 rw[Rat.lt_iff]
 split
 ·simp;omega
 ·split<;>simp<;>omega
def mkR (n d:Int):Rat:=mkRat (if d<0 then -n else n) (ab d)
theorem HC (a b:Rat)(ha:LQ 100000000 a)(l:LQ 100000000 b)(w:World)(h:Hp)(g:G w h):CV 117 #[qv a,qv b] w h (qv (if a<b then b else a)):=by
 have c:=sS g;refine go Tryz.func117 [(0,qv a),(1,qv b)] rfl (av (lA 2 40 (qc a) c (fun i w2 j c=>lA 3 40 (qc b) c (fun p k f c=>lA 4 40 da c (fun x e u c=>ah (aa c [.o 5 (qv b) 1 0 5,.o 6 (qv a) 2 0 5] (ag 7 c (uE b a aM aM _ _ c.g) (fun _ _ c=>?_))))))));cases za:(decide ((0:Int)<(cX b a:Int)))
 ·
  have zb:=oF za;exact lB 8 za (af (cK (aa c [.o 10 (qv a) 2 0 5] (lP 0 0 (qc a) c (fun _ c=>ac c [(0,0,5)] (qv a) (by rw[MM (fun d=>by have:=iq.2 d;omega)]))))))
 have zb:=oT za;exact lB 8 za (ak (aa c [.o 9 (qv b) 1 0 5] (lP 0 0 (qc b) c (fun _ c=>ac c [(0,0,5)] (qv b) (by rw[MN (iq.1 oM)])))))
theorem ET (n d:Int)(i:d<0)(e:(wds (ab n)).length≤1000000000)(k:(wds (ab d)).length≤1000000000)(w:World)(h:Hp)(g:G w h)(u:Tab h):CV 51 #[iv n,iv d] w h (.tuple #[qv (mkR n d),.bool true]):=by
 have a:=((sS g).aB u);have l:=LC i;have x:0<ab d:=by unfold ab;omega
 have j:(wds (ab (-n))).length≤1000000000:=by unfold ab;rw[L1];exact e
 refine go Tryz.func51 [(0,iv n),(1,iv d)] rfl (av (lA 2 38 (ic n) a (fun B w2 C a=>lA 3 38 (ic d) a (fun F D z a=>lA 4 40 da a (fun I y H a=>lL a [.v 5 qF] (ah (aa a [.o 6 (iv d) 1 0 3] (ag 7 a (kT d cC _ _ a.g) (fun _ _ a=>?_)))))))));have za:(((d).sign:Int) == (0:Int))=false:=bJ oM;have c:=ae za;refine lB 8 za (af (cK (cQ (aa a [.o 10 (iv d) 1 0 3] (ag 11 a (kT d cC _ _ a.g) (fun _ _ a=>?_))))));have ⟨zb,b⟩:=dT (p:=((d).sign:Int)<(0:Int)) oM;refine lB 12 zb (ak (kQ (lL a [.o 13 (iv n) 2 0 3] (ag 14 a (Gu n cC _ _ a.g) (fun _ _ a=>lP 2 0 (ic (-n)) a (fun _ a=>ah (cR 4 [] mixed a ar ?_)))))));exact eO 0 15 [(2,0,3)] (iv (-n)) a (eO 1 16 [(1,0,3)] (iv d) a (aq 2 17 a (fun _ _ a=>tm d _ _ a.g) (fun _ _ a=>aq 3 18 a (fun _ _ a=>rr (-n) (ab d) cC cC cC _ _ a.g a.f.1) (fun _ _ a=>ck a (fun _ _ a=>tP 4 0 0 (qc (mkRat (-n) (ab d))) a (fun _ a=>tV 5 5 qT (tN (kX (a.ret [(0,0,5)] (.tuple #[qv (mkRat (-n) (ab d)),qT]) (by unfold mkR;rw[MN i]))))))))))
theorem EE (n d:Int)(j:0<d)(u:(wds (ab n)).length≤1000000000)(e:(wds (ab d)).length≤1000000000)(w:World)(h:Hp)(g:G w h)(k:Tab h):CV 51 #[iv n,iv d] w h (.tuple #[qv (mkR n d),.bool true]):=by
 have a:=((sS g).aB k);have i:=LD j;have l:0<ab d:=by unfold ab;omega
 refine go Tryz.func51 [(0,iv n),(1,iv d)] rfl (av (lA 2 38 (ic n) a (fun z w2 B a=>lA 3 38 (ic d) a (fun D C y a=>lA 4 40 da a (fun H x F a=>lL a [.v 5 qF] (ah (aa a [.o 6 (iv d) 1 0 3] (ag 7 a (kT d cC _ _ a.g) (fun _ _ a=>?_)))))))));have za:(((d).sign:Int) == (0:Int))=false:=bJ oM;have c:=ae za;refine lB 8 za (af (cK (cQ (aa a [.o 10 (iv d) 1 0 3] (ag 11 a (kT d cC _ _ a.g) (fun _ _ a=>?_))))));have ⟨zb,b⟩:=dF (p:=((d).sign:Int)<(0:Int)) oM;refine lB 12 zb (af (cK (cQ (cR 4 [] mixed a ar ?_))));exact eO 0 15 [(2,0,3)] (iv n) a (eO 1 16 [(1,0,3)] (iv d) a (aq 2 17 a (fun _ _ a=>tm d _ _ a.g) (fun _ _ a=>aq 3 18 a (fun _ _ a=>rr n (ab d) cC cC cC _ _ a.g a.f.1) (fun _ _ a=>ck a (fun _ _ a=>tP 4 0 0 (qc (mkRat n (ab d))) a (fun _ a=>tV 5 5 qT (tN (kX (a.ret [(0,0,5)] (.tuple #[qv (mkRat n (ab d)),qT]) (by unfold mkR;rw[MM oM]))))))))))
theorem Hn (n d:Int)(e:d≠0)(b:(wds (ab n)).length≤1000000000)(a:(wds (ab d)).length≤1000000000)(w:World)(h:Hp)(g:G w h)(c:Tab h):CV 51 #[iv n,iv d] w h (.tuple #[qv (mkR n d),.bool true]):=by
 rcases LB d 0 with h1|h1|h1
 ·exact ET n d h1 b a w h g c
 ·exact MO h1 e
 ·exact EE n d h1 b a w h g c
theorem vh (a b:Rat)(ha:LQ 100000000 a)(C:LQ 100000000 b)(hz:b.num≠0)(w:World)(h:Hp)(g:G w h)(B:Tab h):CV 113 #[qv a,qv b] w h (.tuple #[qv (a/b),.bool true]):=by
 have c:=((sS g).aB B);have y:=ha;have p:=C;obtain ⟨H,D⟩:=y;obtain ⟨u,x⟩:=p;have j:((b.num).sign == (0:Int))=false:=by simpa using hz
 obtain ⟨d,i⟩:=qW b hz;have l:(wds (ab (bC (decide ((b.num).sign<(0:Int))) b.den))).length≤100000000:=by rw[eD];exact x
 have k:LQ 100000000 b⁻¹:=⟨by rw[d];exact l,by rw[i];exact u⟩;have z:LQ 1000000000 b⁻¹:=k.mono oM;refine go Tryz.func113 [(0,qv a),(1,qv b)] rfl (av (lA 2 40 (qc a) c (fun K w2 L c=>lA 3 40 (qc b) c (fun F M J c=>lA 4 40 da c (fun Q I O c=>lL c [.v 5 qF] (ah (aa c [.o 6 (qv b) 1 0 5] (ag 7 c (jc b aM _ _ c.g) (fun _ _ c=>lV 8 qF ?_ (hr:=rb (e:=((b.num).sign == (0:Int))) kR j))))))))));refine af (cK (cQ (cR 12 [] mixed c ar ?_)));exact eO 0 10 [(2,0,5)] (qv a) c (eO 1 11 [(1,0,5)] (qv b) c (eO 4 14 [(1,0,5)] (qv b) c (eV 7 17 (pB F) (eO 8 18 [(1,0,3)] (iv b.num) c (aq 2 12 c (fun _ _ c=>jc b aM _ _ c.g) (fun _ _ c=>eV 3 13 (.bool (decide (((b.num).sign:Int)<(0:Int)))) (aq 5 15 c (fun _ _ c=>eT b aM _ _ c.g) (fun _ _ c=>aq 6 16 c (fun _ _ c=>fH (decide (((b.num).sign:Int)<(0:Int))) b.den cC _ _ c.g) (fun _ _ c=>aq 9 19 c (fun _ _ c=>tm b.num _ _ c.g) (fun _ _ c=>aq 10 20 c (fun _ _ c=>jH b⁻¹ (bC (decide (((b.num).sign:Int)<(0:Int))) b.den) (ab b.num) d i.symm aM _ _ c.g) (fun _ _ c=>aq 11 21 c (fun _ _ c=>wT a (b⁻¹) aM aM _ _ c.g c.f.1) (fun _ _ c=>ck c (fun _ _ c=>tP 12 0 0 (qc (a*(b⁻¹))) c (fun _ c=>tV 13 5 qT (tN (kX (c.ret [(0,0,5)] (.tuple #[qv (a*(b⁻¹)),qT]) (by rw[Rat.div_def]))))))))))))))))))
theorem GY (a:Rat)(e:LQ 100000000 (0:Rat))(w:World)(h:Hp)(g:G w h):CV 113 #[qv a,qv (0:Rat)] w h (.tuple #[qv 0,.bool false]):=by
 have b:=sS g;have d:((0:Rat).num).sign=0:=rfl;refine go Tryz.func113 [(0,qv a),(1,qv (0:Rat))] rfl (av (lA 2 40 (qc a) b (fun i w2 p b=>lA 3 40 (qc (0:Rat)) b (fun j u k b=>lA 4 40 da b (fun x f l b=>lL b [.v 5 qF] (ah (aa b [.o 6 (qv (0:Rat)) 1 0 5] (ag 7 b (jc (0:Rat) aM _ _ b.g) (fun _ _ b=>?_)))))))));have za:((((0:Rat).num).sign:Int) == (0:Int))=true:=fg oM;have c:=ML za;exact lB 8 za (ak (aa b [.v 9 eb] (lP 0 0 da b (fun _ b=>lL b [.v 5 qF] (ac b [(0,0,5)] (.tuple #[.agg #[qF,uV 0,eS,uV 0,eS],qF]) rfl)))))
theorem gj (x:Int)(A:Option Addr)(c:Nat)(u:(lim (ab x)).length≤c)(F:(lim (ab x)).length≤2000000000)(y:Int)(D:Option Addr)(d:Nat)(B:(lim (ab y)).length≤d)(i:(lim (ab y)).length≤2000000000)(w:World)(h:Hp)(g:G w h)(z:S3 A (lim (ab x)) h)(k:S3 D (lim (ab y)) h):CR 122 #[.agg #[.bool (ai x),.slice A ((lim (ab x)).length) c],.agg #[.bool (ai y),.slice D ((lim (ab y)).length) d]] w h (fun v h1=>RI h1 v (x*y)):=by
 have a:=(((sS g).aS z).aS k);refine go Tryz.func122 [(0,.agg #[.bool (ai x),qS A ((lim (ab x)).length) c]),(1,.agg #[.bool (ai y),qS D ((lim (ab y)).length) d])] rfl (av (lA 2 26 ([.bool (ai x),qS A ((lim (ab x)).length) c]) a (fun b w2 K a=>lA 3 26 ([.bool (ai y),qS D ((lim (ab y)).length) d]) a (fun e L J a=>lA 4 26 ([qF,sZ]) a (fun O I M a=>ah (cR 11 [] mixed a ar ?_))))));refine eV 0 5 (pB b) (eO 1 6 [(2,0,1)] (.bool (ai x)) a (eV 2 7 (pB e) (eO 3 8 [(1,0,1)] (.bool (ai y)) a (eV 4 9 (.bool ((ai x) != (ai y))) (eV 5 10 (qP b 1) (eO 6 11 [(2,1,1)] (qS A ((lim (ab x)).length) c) a (eV 7 12 (qP e 1) (eO 8 13 [(1,1,1)] (qS D ((lim (ab y)).length) d) a (eC 9 14 a (fun _ _ a=>nk (ab x) A c u (ab y) D d B oM oM _ _ a.g a.f.2.1 a.f.1) ?_)))))))));rintro _ _ _ _ _ a ⟨o,C,rfl,j,p⟩;replace a:=a.aS p;refine eC 10 15 a (fun _ _ a=>rI ((ai x) != (ai y)) ((ab x)*(ab y)) o C j _ _ a.g a.f.1) ?_;rintro _ _ _ _ _ a ⟨za,zb,rfl,H,l⟩;replace a:=a.aS l;exact ck a (fun _ _ a=>tP 11 0 0 ([.bool (ai (bC ((ai x) != (ai y)) ((ab x)*(ab y)))),qS za ((lim (ab (bC ((ai x) != (ai y)) ((ab x)*(ab y))))).length) zb]) a (fun _ a=>tN (kX (a.ret [(0,0,2)] (.agg #[.bool (ai (bC ((ai x) != (ai y)) ((ab x)*(ab y)))),qS za ((lim (ab (bC ((ai x) != (ai y)) ((ab x)*(ab y))))).length) zb]) (by rw[←mb x y];exact ⟨_,_,rfl,H,a.f.1⟩)))))
theorem wV (x:Int)(A:Option Addr)(c:Nat)(j:(lim (ab x)).length≤c)(p:(lim (ab x)).length≤2000000000)(l:ai x=false)(w:World)(h:Hp)(g:G w h)(k:S3 A (lim (ab x)) h):CR 179 #[.agg #[.bool false,.slice A ((lim (ab x)).length) c]] w h (fun v h1=>RI h1 v (-x)):=by
 have a:=((sS g).aS k);refine go Tryz.func179 [(0,.agg #[qF,qS A ((lim (ab x)).length) c])] rfl (av (lA 1 26 ([qF,qS A ((lim (ab x)).length) c]) a (fun e w2 y a=>lA 2 26 ([qF,sZ]) a (fun B z u a=>aI (lL a [.v 3 (pB e),.o 4 qF 1 0 1,.v 5 qT,.v 6 (qP e 1),.o 7 (qS A ((lim (ab x)).length) c) 1 1 1] (lC 8 a (rI true (ab x) A c j _ _ a.g a.f.1) ?_))))));rintro _ _ _ a ⟨d,i,rfl,b,za⟩;replace a:=a.aS za;exact lP 0 0 ([.bool (ai (bC true (ab x))),qS d ((lim (ab (bC true (ab x)))).length) i]) a (fun _ a=>ac a [(0,0,2)] (.agg #[.bool (ai (bC true (ab x))),qS d ((lim (ab (bC true (ab x)))).length) i]) (by rw[←kr x,l];exact ⟨_,_,rfl,b,a.f.1⟩))
theorem vG (x:Int)(A:Option Addr)(c:Nat)(j:(lim (ab x)).length≤c)(p:(lim (ab x)).length≤2000000000)(l:ai x=true)(w:World)(h:Hp)(g:G w h)(k:S3 A (lim (ab x)) h):CR 179 #[.agg #[.bool true,.slice A ((lim (ab x)).length) c]] w h (fun v h1=>RI h1 v (-x)):=by
 have a:=((sS g).aS k);refine go Tryz.func179 [(0,.agg #[qT,qS A ((lim (ab x)).length) c])] rfl (av (lA 1 26 ([qT,qS A ((lim (ab x)).length) c]) a (fun e w2 y a=>lA 2 26 ([qF,sZ]) a (fun B z u a=>aI (lL a [.v 3 (pB e),.o 4 qT 1 0 1,.v 5 qF,.v 6 (qP e 1),.o 7 (qS A ((lim (ab x)).length) c) 1 1 1] (lC 8 a (rI false (ab x) A c j _ _ a.g a.f.1) ?_))))));rintro _ _ _ a ⟨d,i,rfl,b,za⟩;replace a:=a.aS za;exact lP 0 0 ([.bool (ai (bC false (ab x))),qS d ((lim (ab (bC false (ab x)))).length) i]) a (fun _ a=>ac a [(0,0,2)] (.agg #[.bool (ai (bC false (ab x))),qS d ((lim (ab (bC false (ab x)))).length) i]) (by rw[←kr x,l];exact ⟨_,_,rfl,b,a.f.1⟩))
theorem sn (x:Int)(A:Option Addr)(c:Nat)(b:(lim (ab x)).length≤c)(a:(lim (ab x)).length≤2000000000)(w:World)(h:Hp)(g:G w h)(d:S3 A (lim (ab x)) h):CR 179 #[.agg #[.bool (ai x),.slice A (lim (ab x)).length c]] w h (fun v h1=>RI h1 v (-x)):=by
 rcases hx:ai x with _|_
 ·exact wV x A c b a hx w h g d
 ·exact vG x A c b a hx w h g d
theorem tf (x:Int)(A:Option Addr)(c:Nat)(F:(lim (ab x)).length≤c)(L:(lim (ab x)).length≤2000000000)(y:Int)(D:Option Addr)(d:Nat)(I:(lim (ab y)).length≤d)(i:(lim (ab y)).length≤2000000000)(J:ai x=false)(p:ai y=false)(w:World)(h:Hp)(g:G w h)(H:S3 A (lim (ab x)) h)(u:S3 D (lim (ab y)) h):CR 178 #[.agg #[.bool false,.slice A ((lim (ab x)).length) c],.agg #[.bool false,.slice D ((lim (ab y)).length) d]] w h (fun v h1=>RI h1 v (x+y)):=by
 have a:=(((sS g).aS H).aS u);have j:=bc J;have k:=bc p;refine go Tryz.func178 [(0,.agg #[qF,qS A ((lim (ab x)).length) c]),(1,.agg #[qF,qS D ((lim (ab y)).length) d])] rfl (av (lA 2 26 ([qF,qS A ((lim (ab x)).length) c]) a (fun b w2 S a=>lA 3 26 ([qF,qS D ((lim (ab y)).length) d]) a (fun e U Q a=>lA 4 26 ([qF,sZ]) a (fun W O V a=>ah (aa a [.v 5 (pB b),.o 6 qF 2 0 1,.v 7 (pB e),.o 8 qF 1 0 1,.v 9 qT] (ak (cQ (cR 8 [] mixed a ar ?_)))))))));refine eV 0 10 (pB b) (eO 1 11 [(2,0,1)] qF a (eV 2 12 (qP b 1) (eO 3 13 [(2,1,1)] (qS A ((lim (ab x)).length) c) a (eV 4 14 (qP e 1) (eO 5 15 [(1,1,1)] (qS D ((lim (ab y)).length) d) a (eC 6 16 a (fun _ _ a=>sF (ab x) A c F (ab y) D d I oM oM _ _ a.g a.f.2.1 a.f.1) ?_))))));rintro _ _ _ _ _ a ⟨B,K,rfl,l,C⟩;replace a:=a.aS C;refine eC 7 17 a (fun _ _ a=>rI false ((ab x)+(ab y)) B K l _ _ a.g a.f.1) ?_;rintro _ _ _ _ _ a ⟨za,zb,rfl,M,z⟩;replace a:=a.aS z;exact ck a (fun _ _ a=>tP 8 0 0 ([.bool (ai (bC false ((ab x)+(ab y)))),qS za ((lim (ab (bC false ((ab x)+(ab y))))).length) zb]) a (fun _ a=>tN (kX (a.ret [(0,0,2)] (.agg #[.bool (ai (bC false ((ab x)+(ab y)))),qS za ((lim (ab (bC false ((ab x)+(ab y))))).length) zb]) (by rw[show x+y=(bC false ((ab x)+(ab y))) by unfold bC ab at *;simp;omega];exact ⟨_,_,rfl,M,a.f.1⟩)))))
theorem tg (x:Int)(A:Option Addr)(c:Nat)(i:(lim (ab x)).length≤c)(hLx:(lim (ab x)).length≤2000000000)(y:Int)(D:Option Addr)(d:Nat)(j:(lim (ab y)).length≤d)(z:(lim (ab y)).length≤2000000000)(Y:ai x=false)(O:ai y=true)(w:World)(h:Hp)(g:G w h)(W:S3 A (lim (ab x)) h)(Q:S3 D (lim (ab y)) h):CR 178 #[.agg #[.bool false,.slice A ((lim (ab x)).length) c],.agg #[.bool true,.slice D ((lim (ab y)).length) d]] w h (fun v h1=>RI h1 v (x+y)):=by
 have a:=(((sS g).aS W).aS Q);have C:=bc Y;have F:=bx O;refine go Tryz.func178 [(0,.agg #[qF,qS A ((lim (ab x)).length) c]),(1,.agg #[qT,qS D ((lim (ab y)).length) d])] rfl (av (lA 2 26 ([qF,qS A ((lim (ab x)).length) c]) a (fun b w2 h3 a=>lA 3 26 ([qT,qS D ((lim (ab y)).length) d]) a (fun e w5 h6 a=>lA 4 26 ([qF,sZ]) a (fun b7 w8 h9 a=>ah (aa a [.v 5 (pB b),.o 6 qF 2 0 1,.v 7 (pB e),.o 8 qT 1 0 1,.v 9 qF] (af (cK (cQ (aa a [.v 18 (qP b 1),.o 19 (qS A ((lim (ab x)).length) c) 2 1 1,.v 20 (qP e 1),.o 21 (qS D ((lim (ab y)).length) d) 1 1 1] (ag 22 a (ji (ab x) A c i (ab y) D d j oM oM _ _ a.g a.f.2.1 a.f.1) (fun _ _ a=>?_))))))))))));have B:=gi (ab x) (ab y);cases za:(decide ((0:Int)≤(cD (ab x) (ab y):Int)))
 ·
  have zb:=oF za;refine lB 23 za (af (cK (cQ (cR 8 [] mixed a ar ?_))));refine eV 0 32 (pB e) (eO 1 33 [(1,0,1)] qT a (eV 2 34 (qP e 1) (eO 3 35 [(1,1,1)] (qS D ((lim (ab y)).length) d) a (eV 4 36 (qP b 1) (eO 5 37 [(2,1,1)] (qS A ((lim (ab x)).length) c) a (eC 6 38 a (fun _ _ a=>kv (ab y) D d j (ab x) A c i oM oM oM _ _ a.g a.f.1 a.f.2.1) ?_))))));rintro _ _ _ _ _ a ⟨I,zq,rfl,U,Z⟩;replace a:=a.aS Z;refine eC 7 39 a (fun _ _ a=>rI true ((ab y)-(ab x)) I zq U _ _ a.g a.f.1) ?_;rintro _ _ _ _ _ a ⟨k,p,rfl,V,M⟩;replace a:=a.aS M;exact ck a (fun _ _ a=>tP 8 0 0 ([.bool (ai (bC true ((ab y)-(ab x)))),qS k ((lim (ab (bC true ((ab y)-(ab x))))).length) p]) a (fun _ a=>tN (kX (a.ret [(0,0,2)] (.agg #[.bool (ai (bC true ((ab y)-(ab x)))),qS k ((lim (ab (bC true ((ab y)-(ab x))))).length) p]) (by rw[show x+y=(bC true ((ab y)-(ab x))) by unfold bC ab at *;simp;omega];exact ⟨_,_,rfl,V,a.f.1⟩)))))
 have zb:=oT za;refine lB 23 za (ak (cQ (cR 8 [] mixed a ar ?_)));refine eV 0 24 (pB b) (eO 1 25 [(2,0,1)] qF a (eV 2 26 (qP b 1) (eO 3 27 [(2,1,1)] (qS A ((lim (ab x)).length) c) a (eV 4 28 (qP e 1) (eO 5 29 [(1,1,1)] (qS D ((lim (ab y)).length) d) a (eC 6 30 a (fun _ _ a=>kv (ab x) A c i (ab y) D d j oM oM oM _ _ a.g a.f.2.1 a.f.1) ?_))))));rintro _ _ _ _ _ a ⟨X,S,rfl,K,L⟩;replace a:=a.aS L;refine eC 7 31 a (fun _ _ a=>rI false ((ab x)-(ab y)) X S K _ _ a.g a.f.1) ?_;rintro _ _ _ _ _ a ⟨u,l,rfl,J,H⟩;replace a:=a.aS H;exact ck a (fun _ _ a=>tP 8 0 0 ([.bool (ai (bC false ((ab x)-(ab y)))),qS u ((lim (ab (bC false ((ab x)-(ab y))))).length) l]) a (fun _ a=>tN (kX (a.ret [(0,0,2)] (.agg #[.bool (ai (bC false ((ab x)-(ab y)))),qS u ((lim (ab (bC false ((ab x)-(ab y))))).length) l]) (by rw[show x+y=(bC false ((ab x)-(ab y))) by unfold bC ab at *;simp;omega];exact ⟨_,_,rfl,J,a.f.1⟩)))))
theorem t8 (x:Int)(A:Option Addr)(c:Nat)(i:(lim (ab x)).length≤c)(hLx:(lim (ab x)).length≤2000000000)(y:Int)(D:Option Addr)(d:Nat)(j:(lim (ab y)).length≤d)(z:(lim (ab y)).length≤2000000000)(Y:ai x=true)(O:ai y=false)(w:World)(h:Hp)(g:G w h)(W:S3 A (lim (ab x)) h)(Q:S3 D (lim (ab y)) h):CR 178 #[.agg #[.bool true,.slice A ((lim (ab x)).length) c],.agg #[.bool false,.slice D ((lim (ab y)).length) d]] w h (fun v h1=>RI h1 v (x+y)):=by
 have a:=(((sS g).aS W).aS Q);have C:=bx Y;have F:=bc O;refine go Tryz.func178 [(0,.agg #[qT,qS A ((lim (ab x)).length) c]),(1,.agg #[qF,qS D ((lim (ab y)).length) d])] rfl (av (lA 2 26 ([qT,qS A ((lim (ab x)).length) c]) a (fun b w2 h3 a=>lA 3 26 ([qF,qS D ((lim (ab y)).length) d]) a (fun e w5 h6 a=>lA 4 26 ([qF,sZ]) a (fun b7 w8 h9 a=>ah (aa a [.v 5 (pB b),.o 6 qT 2 0 1,.v 7 (pB e),.o 8 qF 1 0 1,.v 9 qF] (af (cK (cQ (aa a [.v 18 (qP b 1),.o 19 (qS A ((lim (ab x)).length) c) 2 1 1,.v 20 (qP e 1),.o 21 (qS D ((lim (ab y)).length) d) 1 1 1] (ag 22 a (ji (ab x) A c i (ab y) D d j oM oM _ _ a.g a.f.2.1 a.f.1) (fun _ _ a=>?_))))))))))));have B:=gi (ab x) (ab y);cases za:(decide ((0:Int)≤(cD (ab x) (ab y):Int)))
 ·
  have zb:=oF za;refine lB 23 za (af (cK (cQ (cR 8 [] mixed a ar ?_))));refine eV 0 32 (pB e) (eO 1 33 [(1,0,1)] qF a (eV 2 34 (qP e 1) (eO 3 35 [(1,1,1)] (qS D ((lim (ab y)).length) d) a (eV 4 36 (qP b 1) (eO 5 37 [(2,1,1)] (qS A ((lim (ab x)).length) c) a (eC 6 38 a (fun _ _ a=>kv (ab y) D d j (ab x) A c i oM oM oM _ _ a.g a.f.1 a.f.2.1) ?_))))));rintro _ _ _ _ _ a ⟨I,zq,rfl,U,Z⟩;replace a:=a.aS Z;refine eC 7 39 a (fun _ _ a=>rI false ((ab y)-(ab x)) I zq U _ _ a.g a.f.1) ?_;rintro _ _ _ _ _ a ⟨k,p,rfl,V,M⟩;replace a:=a.aS M;exact ck a (fun _ _ a=>tP 8 0 0 ([.bool (ai (bC false ((ab y)-(ab x)))),qS k ((lim (ab (bC false ((ab y)-(ab x))))).length) p]) a (fun _ a=>tN (kX (a.ret [(0,0,2)] (.agg #[.bool (ai (bC false ((ab y)-(ab x)))),qS k ((lim (ab (bC false ((ab y)-(ab x))))).length) p]) (by rw[show x+y=(bC false ((ab y)-(ab x))) by unfold bC ab at *;simp;omega];exact ⟨_,_,rfl,V,a.f.1⟩)))))
 have zb:=oT za;refine lB 23 za (ak (cQ (cR 8 [] mixed a ar ?_)));refine eV 0 24 (pB b) (eO 1 25 [(2,0,1)] qT a (eV 2 26 (qP b 1) (eO 3 27 [(2,1,1)] (qS A ((lim (ab x)).length) c) a (eV 4 28 (qP e 1) (eO 5 29 [(1,1,1)] (qS D ((lim (ab y)).length) d) a (eC 6 30 a (fun _ _ a=>kv (ab x) A c i (ab y) D d j oM oM oM _ _ a.g a.f.2.1 a.f.1) ?_))))));rintro _ _ _ _ _ a ⟨X,S,rfl,K,L⟩;replace a:=a.aS L;refine eC 7 31 a (fun _ _ a=>rI true ((ab x)-(ab y)) X S K _ _ a.g a.f.1) ?_;rintro _ _ _ _ _ a ⟨u,l,rfl,J,H⟩;replace a:=a.aS H;exact ck a (fun _ _ a=>tP 8 0 0 ([.bool (ai (bC true ((ab x)-(ab y)))),qS u ((lim (ab (bC true ((ab x)-(ab y))))).length) l]) a (fun _ a=>tN (kX (a.ret [(0,0,2)] (.agg #[.bool (ai (bC true ((ab x)-(ab y)))),qS u ((lim (ab (bC true ((ab x)-(ab y))))).length) l]) (by rw[show x+y=(bC true ((ab x)-(ab y))) by unfold bC ab at *;simp;omega];exact ⟨_,_,rfl,J,a.f.1⟩)))))
theorem tL (x:Int)(A:Option Addr)(c:Nat)(F:(lim (ab x)).length≤c)(L:(lim (ab x)).length≤2000000000)(y:Int)(D:Option Addr)(d:Nat)(I:(lim (ab y)).length≤d)(i:(lim (ab y)).length≤2000000000)(J:ai x=true)(p:ai y=true)(w:World)(h:Hp)(g:G w h)(H:S3 A (lim (ab x)) h)(u:S3 D (lim (ab y)) h):CR 178 #[.agg #[.bool true,.slice A ((lim (ab x)).length) c],.agg #[.bool true,.slice D ((lim (ab y)).length) d]] w h (fun v h1=>RI h1 v (x+y)):=by
 have a:=(((sS g).aS H).aS u);have j:=bx J;have k:=bx p;refine go Tryz.func178 [(0,.agg #[qT,qS A ((lim (ab x)).length) c]),(1,.agg #[qT,qS D ((lim (ab y)).length) d])] rfl (av (lA 2 26 ([qT,qS A ((lim (ab x)).length) c]) a (fun b w2 S a=>lA 3 26 ([qT,qS D ((lim (ab y)).length) d]) a (fun e U Q a=>lA 4 26 ([qF,sZ]) a (fun W O V a=>ah (aa a [.v 5 (pB b),.o 6 qT 2 0 1,.v 7 (pB e),.o 8 qT 1 0 1,.v 9 qT] (ak (cQ (cR 8 [] mixed a ar ?_)))))))));refine eV 0 10 (pB b) (eO 1 11 [(2,0,1)] qT a (eV 2 12 (qP b 1) (eO 3 13 [(2,1,1)] (qS A ((lim (ab x)).length) c) a (eV 4 14 (qP e 1) (eO 5 15 [(1,1,1)] (qS D ((lim (ab y)).length) d) a (eC 6 16 a (fun _ _ a=>sF (ab x) A c F (ab y) D d I oM oM _ _ a.g a.f.2.1 a.f.1) ?_))))));rintro _ _ _ _ _ a ⟨B,K,rfl,l,C⟩;replace a:=a.aS C;refine eC 7 17 a (fun _ _ a=>rI true ((ab x)+(ab y)) B K l _ _ a.g a.f.1) ?_;rintro _ _ _ _ _ a ⟨za,zb,rfl,M,z⟩;replace a:=a.aS z;exact ck a (fun _ _ a=>tP 8 0 0 ([.bool (ai (bC true ((ab x)+(ab y)))),qS za ((lim (ab (bC true ((ab x)+(ab y))))).length) zb]) a (fun _ a=>tN (kX (a.ret [(0,0,2)] (.agg #[.bool (ai (bC true ((ab x)+(ab y)))),qS za ((lim (ab (bC true ((ab x)+(ab y))))).length) zb]) (by rw[show x+y=(bC true ((ab x)+(ab y))) by unfold bC ab at *;simp;omega];exact ⟨_,_,rfl,M,a.f.1⟩)))))
theorem rY (x:Int)(A:Option Addr)(c:Nat)(e:(lim (ab x)).length≤c)(b:(lim (ab x)).length≤2000000000)(y:Int)(D:Option Addr)(d:Nat)(i:(lim (ab y)).length≤d)(a:(lim (ab y)).length≤2000000000)(w:World)(h:Hp)(g:G w h)(f:S3 A (lim (ab x)) h)(j:S3 D (lim (ab y)) h):CR 178 #[.agg #[.bool (ai x),.slice A (lim (ab x)).length c],.agg #[.bool (ai y),.slice D (lim (ab y)).length d]] w h (fun v h1=>RI h1 v (x+y)):=by
 rcases hx:ai x with _|_<;>rcases hy:ai y with _|_
 ·exact tf x A c e b y D d i a hx hy w h g f j
 ·exact tg x A c e b y D d i a hx hy w h g f j
 ·exact t8 x A c e b y D d i a hx hy w h g f j
 ·exact tL x A c e b y D d i a hx hy w h g f j
theorem ue (x:Int)(A:Option Addr)(c:Nat)(l:(lim (ab x)).length≤c)(i:(lim (ab x)).length≤2000000000)(hz:x=0)(w:World)(h:Hp)(g:G w h)(j:S3 A (lim (ab x)) h):CV 161 #[.agg #[.bool (ai x),.slice A ((lim (ab x)).length) c]] w h (iV x.sign):=by
 have a:=((sS g).aS j);have e:=@bV (ab x);have k:ab x=x.natAbs:=rfl;refine go Tryz.func161 [(0,.agg #[.bool (ai x),qS A ((lim (ab x)).length) c])] rfl (av (lA 1 26 ([.bool (ai x),qS A ((lim (ab x)).length) c]) a (fun f w2 p a=>lL a [.v 2 (iV 0)] (ah (kZ (aa a [.v 4 (qP f 1),.o 5 (qS A ((lim (ab x)).length) c) 0 1 1,.v 6 (nV ((lim (ab x)).length))] ?_))))));have b:((((lim (ab x)).length:Nat):Int) == (0:Int))=true:=fg oM;have d:=ML b;exact lB 7 b (lL a [.m 3 7] (ak (aa a [.v 2 (iV 0)] (ac a [] (iV 0) (by subst hz;rfl)))))
theorem tF (x:Int)(A:Option Addr)(c:Nat)(l:(lim (ab x)).length≤c)(i:(lim (ab x)).length≤2000000000)(hz:x<0)(w:World)(h:Hp)(g:G w h)(j:S3 A (lim (ab x)) h):CV 161 #[.agg #[.bool true,.slice A ((lim (ab x)).length) c]] w h (iV x.sign):=by
 have a:=((sS g).aS j);have f:=@bV (ab x);have k:ab x=x.natAbs:=rfl;refine go Tryz.func161 [(0,.agg #[qT,qS A ((lim (ab x)).length) c])] rfl (av (lA 1 26 ([qT,qS A ((lim (ab x)).length) c]) a (fun d w2 p a=>lL a [.v 2 (iV 0)] (ah (kZ (aa a [.v 4 (qP d 1),.o 5 (qS A ((lim (ab x)).length) c) 0 1 1,.v 6 (nV ((lim (ab x)).length))] ?_))))));have b:((((lim (ab x)).length:Nat):Int) == (0:Int))=false:=bJ oM;have e:=ae b;exact lB 7 b (lL a [.m 3 7] (af (aa a [.v 9 (pB d),.o 10 qT 0 0 1,.m 8 10] (ak (aa a [.v 2 (iV (-1))] (ac a [] (iV (-1)) (by rw[LC hz])))))))
theorem s8 (x:Int)(A:Option Addr)(c:Nat)(l:(lim (ab x)).length≤c)(i:(lim (ab x)).length≤2000000000)(hz:0<x)(w:World)(h:Hp)(g:G w h)(j:S3 A (lim (ab x)) h):CV 161 #[.agg #[.bool false,.slice A ((lim (ab x)).length) c]] w h (iV x.sign):=by
 have a:=((sS g).aS j);have f:=@bV (ab x);have k:ab x=x.natAbs:=rfl;refine go Tryz.func161 [(0,.agg #[qF,qS A ((lim (ab x)).length) c])] rfl (av (lA 1 26 ([qF,qS A ((lim (ab x)).length) c]) a (fun d w2 p a=>lL a [.v 2 (iV 0)] (ah (kZ (aa a [.v 4 (qP d 1),.o 5 (qS A ((lim (ab x)).length) c) 0 1 1,.v 6 (nV ((lim (ab x)).length))] ?_))))));have b:((((lim (ab x)).length:Nat):Int) == (0:Int))=false:=bJ oM;have e:=ae b;exact lB 7 b (lL a [.m 3 7] (af (aa a [.v 9 (pB d),.o 10 qF 0 0 1,.m 8 10] (af (cK (aa a [.v 2 (iV 1)] (ac a [] (iV 1) (by rw[LD hz]))))))))
theorem pn (x:Int)(A:Option Addr)(c:Nat)(b:(lim (ab x)).length≤c)(a:(lim (ab x)).length≤2000000000)(w:World)(h:Hp)(g:G w h)(d:S3 A (lim (ab x)) h):CV 161 #[.agg #[.bool (ai x),.slice A (lim (ab x)).length c]] w h (iV x.sign):=by
 rcases LB x 0 with hz|hz|hz
 ·have:=tF x A c b a hz w h g d
  rwa [←show ai x=true by simp[ai,hz]] at this
 ·exact ue x A c b a hz w h g d
 ·have:=s8 x A c b a hz w h g d
  rwa [←show ai x=false by simp[ai];omega] at this
theorem AO (x:Int)(A:Option Addr)(c:Nat)(p:(lim (ab x)).length≤c)(C:(lim (ab x)).length≤2000000000)(y:Int)(D:Option Addr)(d:Nat)(z:(lim (ab y)).length≤d)(b:(lim (ab y)).length≤2000000000)(w:World)(h:Hp)(g:G w h)(u:S3 A (lim (ab x)) h)(i:S3 D (lim (ab y)) h):CR 162 #[.agg #[.bool (ai x),.slice A ((lim (ab x)).length) c],.agg #[.bool (ai y),.slice D ((lim (ab y)).length) d]] w h (fun v h1=>RI h1 v (x-y)):=by
 have a:=(((sS g).aS u).aS i);have j:(lim (ab (-y))).length=(lim (ab y)).length:=by unfold ab;rw[L1]
 refine go Tryz.func162 [(0,.agg #[.bool (ai x),qS A ((lim (ab x)).length) c]),(1,.agg #[.bool (ai y),qS D ((lim (ab y)).length) d])] rfl (av (lA 2 26 ([.bool (ai x),qS A ((lim (ab x)).length) c]) a (fun J w2 K a=>lA 3 26 ([.bool (ai y),qS D ((lim (ab y)).length) d]) a (fun M L I a=>lA 4 26 ([qF,sZ]) a (fun Q H O a=>ah (cR 4 [] mixed a ar ?_))))));refine eO 0 5 [(2,0,2)] (.agg #[.bool (ai x),qS A ((lim (ab x)).length) c]) a (eO 1 6 [(1,0,2)] (.agg #[.bool (ai y),qS D ((lim (ab y)).length) d]) a (eC 2 7 a (fun _ _ a=>sn y D d z oM _ _ a.g a.f.1) ?_));rintro _ _ _ _ _ a ⟨l,B,rfl,e,o⟩;replace a:=a.aS o;refine eC 3 8 a (fun _ _ a=>rY x A c p oM (-y) l B e oM _ _ a.g a.f.r.1 a.f.1) ?_;rintro _ _ _ _ _ a ⟨za,zb,rfl,F,k⟩;replace a:=a.aS k;exact ck a (fun _ _ a=>tP 4 0 0 ([.bool (ai (x+(-y))),qS za ((lim (ab (x+(-y)))).length) zb]) a (fun _ a=>tN (kX (a.ret [(0,0,2)] (.agg #[.bool (ai (x+(-y))),qS za ((lim (ab (x+(-y)))).length) zb]) (by rw[Int.sub_eq_add_neg];exact ⟨_,_,rfl,F,a.f.1⟩)))))
theorem tT (x y:Int):(x-y).sign=dJ x y:=by
 unfold dJ
 rcases LB x y with h|h|h
 ·rw[MN h,LC oM]
 ·subst h;simp
 ·rw[MM oM,MN h,LD oM]
theorem AZ (x:Int)(A:Option Addr)(c:Nat)(p:(lim (ab x)).length≤c)(i:(lim (ab x)).length≤1999999999)(y:Int)(D:Option Addr)(d:Nat)(z:(lim (ab y)).length≤d)(b:(lim (ab y)).length≤1999999999)(w:World)(h:Hp)(g:G w h)(u:S3 A (lim (ab x)) h)(k:S3 D (lim (ab y)) h):CV 121 #[.agg #[.bool (ai x),.slice A ((lim (ab x)).length) c],.agg #[.bool (ai y),.slice D ((lim (ab y)).length) d]] w h (iV (dJ x y)):=by
 have a:=(((sS g).aS u).aS k);have l:(lim (ab (x-y))).length≤2000000000:=fR (show ab (x-y)≤ab x+ab y by unfold ab;omega) (gK i b);refine go Tryz.func121 [(0,.agg #[.bool (ai x),qS A ((lim (ab x)).length) c]),(1,.agg #[.bool (ai y),qS D ((lim (ab y)).length) d])] rfl (av (lA 2 26 ([.bool (ai x),qS A ((lim (ab x)).length) c]) a (fun F w2 H a=>lA 3 26 ([.bool (ai y),qS D ((lim (ab y)).length) d]) a (fun J I C a=>lL a [.v 4 (iV 0)] (aI (lL a [.o 5 (.agg #[.bool (ai x),qS A ((lim (ab x)).length) c]) 1 0 2,.o 6 (.agg #[.bool (ai y),qS D ((lim (ab y)).length) d]) 0 0 2] (lC 7 a (AO x A c p oM y D d z oM _ _ a.g a.f.2.1 a.f.1) ?_)))))));rintro _ _ _ a ⟨j,B,rfl,e,za⟩;replace a:=a.aS za;exact ag 8 a (pn (x-y) j B e oM _ _ a.g a.f.1) (fun _ _ a=>lL a [.m 4 8] (ac a [] (iV (((x-y)).sign)) (by rw[tT])))
theorem xU (a:Nat)(A:Option Addr)(c:Nat)(k:(lim a).length≤c)(b:Nat)(D:Option Addr)(d:Nat)(o:(lim b).length≤d)(q:Nat)(j:q=La a b)(f:(lim a).length≤3000000000)(e:(lim b).length≤3000000000)(w:World)(h:Hp)(g:G w h)(l:S3 A (lim a) h)(i:S3 D (lim b) h):CR 169 #[.slice A (lim a).length c,.slice D (lim b).length d] w h (fun v h1=>RN h1 v q):=by
 subst j;exact Cj a A c k b D d o f e w h g l i
theorem nh (n d:Int)(j:d≠0):(mkR n d).num=bC (ai n != ai d) (ab n/La (ab n) (ab d))∧(mkR n d).den=ab d/La (ab n) (ab d)∧0<La (ab n) (ab d):=by
  have c:0<ab d:=by unfold ab;omega
  have hz:ab (if d<0 then -n else n)=ab n:=by unfold ab;split<;>omega
  obtain ⟨h1,h,f,k⟩:=hJ (if d<0 then -n else n) (ab d) c;rw[hz] at h1 h f k
  refine ⟨?_,h,k⟩;have i:=og _ _ f;rw[hz] at i
  show (mkRat _ _).num=_
  rw[h1,←i]
  by_cases hn:n=0
  · have l:ab n/La (ab n) (ab d)=0:=by rw[hn];exact Nat.zero_div _
    rw[l]
    unfold bC
    simp
  · have e:decide ((if d<0 then -n else n).sign<0)=(ai n != ai d):=by
      unfold ai
      rcases LB n 0 with a|a|a
      · rcases LB d 0 with b|b|b
        · rw[MN b,LD oM];simp[a,b]
        · exact MO b j
        · rw[MM oM,LC a];simp[a,show ¬d<0 by omega]
      · exact MO a hn
      · rcases LB d 0 with b|b|b
        · rw[MN b,LC oM];simp[show ¬n<0 by omega,b]
        · exact MO b j
        · rw[MM oM,LD a];simp[show ¬n<0 by omega,show ¬d<0 by omega]
    rw[e]
theorem vv (x:Int)(A:Option Addr)(c:Nat)(J:(lim (ab x)).length≤c)(Z:(lim (ab x)).length≤2000000000)(y:Int)(D:Option Addr)(d:Nat)(K:(lim (ab y)).length≤d)(k:(lim (ab y)).length≤2000000000)(B:y≠0)(w:World)(h:Hp)(g:G w h)(Y:S3 A (lim (ab x)) h)(W:S3 D (lim (ab y)) h):CR 131 #[.agg #[.bool (ai x),.slice A ((lim (ab x)).length) c],.agg #[.bool (ai y),.slice D ((lim (ab y)).length) d]] w h (fun v h1=>RQ h1 v (mkR x y)):=by
 have a:=(((sS g).aS Y).aS W);obtain ⟨j,i,hq0⟩:=nh x y B;obtain ⟨q,hq⟩:∃ q,q=La (ab x) (ab y):=⟨_,rfl⟩;rw[←hq] at j i hq0
 have X:(lim q).length≤2000000000:=fR (by rw[hq];exact LZ _ (by unfold ab;omega)) k;refine go Tryz.func131 [(0,.agg #[.bool (ai x),qS A ((lim (ab x)).length) c]),(1,.agg #[.bool (ai y),qS D ((lim (ab y)).length) d])] rfl (av (lA 2 26 ([.bool (ai x),qS A ((lim (ab x)).length) c]) a (fun p w2 h3 a=>lA 3 26 ([.bool (ai y),qS D ((lim (ab y)).length) d]) a (fun z w5 h6 a=>lA 4 28 ec a (fun b7 w8 h9 a=>aI (lL a [.v 10 (qP p 1),.o 11 (qS A ((lim (ab x)).length) c) 2 1 1,.v 12 (qP z 1),.o 13 (qS D ((lim (ab y)).length) d) 1 1 1] (lC 14 a (xU (ab x) A c J (ab y) D d K q hq oM oM _ _ a.g a.f.2.1 a.f.1) ?_)))))));rintro _ _ _ a ⟨F,H,rfl,C,V⟩;replace a:=a.aS V;refine lL a [.m 5 14] (aI (lL a [.v 16 (qP p 1),.o 17 (qS A ((lim (ab x)).length) c) 2 1 1,.m 18 5] (lC 19 a (nU (ab x) A c J q F H C oM oM hq0 _ _ a.g a.f.r.1 a.f.1) ?_)));rintro _ _ _ a ⟨_,b,rfl,⟨L,I,rfl,S,U⟩,-⟩;replace a:=a.aS U;refine lL a [.m 15 19,.v 20 (qS L ((lim ((ab x)/q)).length) I),.v 21 b,.m 6 20,.m 7 21] (aI (lL a [.v 23 (qP z 1),.o 24 (qS D ((lim (ab y)).length) d) 1 1 1,.m 25 5] (lC 26 a (nU (ab y) D d K q F H C oM oM hq0 _ _ a.g a.f.r.1 a.f.2.1) ?_)));rintro _ _ _ a ⟨_,e,rfl,⟨za,zb,rfl,Q,M⟩,-⟩;replace a:=a.aS M;refine lL a [.m 22 26,.v 27 (qS za ((lim ((ab y)/q)).length) zb),.v 28 e,.m 8 27,.m 9 28] (aI (lL a [.v 29 (pB p),.o 30 (.bool (ai x)) 2 0 1,.v 31 (pB z),.o 32 (.bool (ai y)) 1 0 1,.v 33 (.bool ((ai x) != (ai y))),.m 34 6] (lC 35 a (rI ((ai x) != (ai y)) ((ab x)/q) L I S _ _ a.g a.f.2.1) ?_)));rintro _ _ _ a ⟨u,l,rfl,O,zq⟩;replace a:=a.aS zq;exact lL a [.m 36 8,.v 37 (.agg #[.bool (ai (bC ((ai x) != (ai y)) ((ab x)/q))),qS u ((lim (ab (bC ((ai x) != (ai y)) ((ab x)/q)))).length) l,qS za ((lim ((ab y)/q)).length) zb])] (lP 0 0 ([.bool (ai (bC ((ai x) != (ai y)) ((ab x)/q))),qS u ((lim (ab (bC ((ai x) != (ai y)) ((ab x)/q)))).length) l,qS za ((lim ((ab y)/q)).length) zb]) a (fun _ a=>ac a [(0,0,3)] (.agg #[.bool (ai (bC ((ai x) != (ai y)) ((ab x)/q))),qS u ((lim (ab (bC ((ai x) != (ai y)) ((ab x)/q)))).length) l,qS za ((lim ((ab y)/q)).length) zb]) (by unfold RQ;rw[j,i];exact ⟨_,_,_,_,rfl,O,Q,a.f.1,a.f.2.1⟩)))
theorem gV (x:Int)(d:Nat):(lim (ab (x*((d:Nat):Int)))).length≤(lim (ab x)).length+(lim d).length:=by
 have:ab (x*((d:Nat):Int))=ab x*d:=Lx x (d:Int);rw[this];exact fO
theorem tR (a:Rat)(e:Option Addr)(c1:Nat)(d:Option Addr)(c:Nat)(B:(lim (ab a.num)).length≤c1)(j:(lim a.den).length≤c)(x:(lim (ab a.num)).length≤300000000)(z:(lim a.den).length≤300000000)(w:World)(h:Hp)(g:G w h)(l:S3 e (lim (ab a.num)) h)(k:S3 d (lim a.den) h):CR 123 #[.agg #[.bool (ai a.num),.slice e ((lim (ab a.num)).length) c1,.slice d ((lim (a.den)).length) c]] w h (fun v h1=>RI h1 v (a.den:Int)):=by
 have b:=(((sS g).aS l).aS k);refine go Tryz.func123 [(0,.agg #[.bool (ai a.num),qS e ((lim (ab a.num)).length) c1,qS d ((lim (a.den)).length) c])] rfl (av (lA 1 28 ([.bool (ai a.num),qS e ((lim (ab a.num)).length) c1,qS d ((lim (a.den)).length) c]) b (fun y w2 D b=>lA 2 26 ([qF,sZ]) b (fun H F C b=>aI (lL b [.v 3 (qP y 2),.o 4 (qS d ((lim (a.den)).length) c) 1 2 1] (lC 5 b (rI false a.den d c j _ _ b.g b.f.1) ?_))))));rintro _ _ _ b ⟨p,u,rfl,i,za⟩;replace b:=b.aS za;exact lP 0 0 ([.bool (ai (bC false a.den)),qS p ((lim (ab (bC false a.den))).length) u]) b (fun _ b=>ac b [(0,0,2)] (.agg #[.bool (ai (bC false a.den)),qS p ((lim (ab (bC false a.den))).length) u]) (⟨_,_,rfl,i,b.f.1⟩))
theorem oq (a:Rat)(c:Option Addr)(c1:Nat)(e:Option Addr)(d:Nat)(k:(lim (ab a.num)).length≤c1)(l:(lim a.den).length≤d)(p:(lim (ab a.num)).length≤300000000)(x:(lim a.den).length≤300000000)(w:World)(h:Hp)(g:G w h)(j:S3 c (lim (ab a.num)) h)(i:S3 e (lim a.den) h):CV 120 #[.agg #[.bool (ai a.num),.slice c ((lim (ab a.num)).length) c1,.slice e ((lim (a.den)).length) d]] w h (iV a.num.sign):=by
 have b:=(((sS g).aS j).aS i);exact go Tryz.func120 [(0,.agg #[.bool (ai a.num),qS c ((lim (ab a.num)).length) c1,qS e ((lim (a.den)).length) d])] rfl (av (lA 1 28 ([.bool (ai a.num),qS c ((lim (ab a.num)).length) c1,qS e ((lim (a.den)).length) d]) b (fun u w2 B b=>lL b [.v 2 (iV 0)] (aI (lL b [.v 3 (pB u),.o 4 (.agg #[.bool (ai a.num),qS c ((lim (ab a.num)).length) c1]) 0 0 2] (ag 5 b (pn a.num c c1 k oM _ _ b.g b.f.2.1) (fun y z b=>lL b [.m 2 5] (ac b [] (iV ((a.num).sign)) rfl))))))))
theorem Cc (a:Rat)(d:Option Addr)(c1:Nat)(j:Option Addr)(i:Nat)(p:(lim (ab a.num)).length≤c1)(z:(lim a.den).length≤i)(Q:(lim (ab a.num)).length≤300000000)(hm1:(lim a.den).length≤300000000)(b:Rat)(e:Option Addr)(c2:Nat)(l:Option Addr)(k:Nat)(o:(lim (ab b.num)).length≤c2)(C:(lim b.den).length≤k)(F:(lim (ab b.num)).length≤300000000)(K:(lim b.den).length≤300000000)(w:World)(h:Hp)(g:G w h)(D:S3 d (lim (ab a.num)) h)(B:S3 j (lim a.den) h)(y:S3 e (lim (ab b.num)) h)(u:S3 l (lim b.den) h):CV 68 #[.agg #[.bool (ai a.num),.slice d ((lim (ab a.num)).length) c1,.slice j ((lim (a.den)).length) i],.agg #[.bool (ai b.num),.slice e ((lim (ab b.num)).length) c2,.slice l ((lim (b.den)).length) k]] w h (iV (cX a b)):=by
 have c:=(((((sS g).aS D).aS B).aS y).aS u);have S:=gV a.num b.den;have Y:=gV b.num a.den;refine go Tryz.func68 [(0,.agg #[.bool (ai a.num),qS d ((lim (ab a.num)).length) c1,qS j ((lim (a.den)).length) i]),(1,.agg #[.bool (ai b.num),qS e ((lim (ab b.num)).length) c2,qS l ((lim (b.den)).length) k])] rfl (av (lA 2 28 ([.bool (ai a.num),qS d ((lim (ab a.num)).length) c1,qS j ((lim (a.den)).length) i]) c (fun U w2 h3 c=>lA 3 28 ([.bool (ai b.num),qS e ((lim (ab b.num)).length) c2,qS l ((lim (b.den)).length) k]) c (fun b4 w5 h6 c=>lL c [.v 4 (iV 0)] (ah (cR 11 [] mixed c ar ?_))))));refine eV 0 5 (pB U) (eO 1 6 [(1,0,2)] (.agg #[.bool (ai a.num),qS d ((lim (ab a.num)).length) c1]) c (eO 2 7 [(0,0,3)] (.agg #[.bool (ai b.num),qS e ((lim (ab b.num)).length) c2,qS l ((lim (b.den)).length) k]) c (eV 5 10 (pB b4) (eO 6 11 [(0,0,2)] (.agg #[.bool (ai b.num),qS e ((lim (ab b.num)).length) c2]) c (eO 7 12 [(1,0,3)] (.agg #[.bool (ai a.num),qS d ((lim (ab a.num)).length) c1,qS j ((lim (a.den)).length) i]) c (eC 3 8 c (fun _ _ c=>tR b e c2 l k o C oM oM _ _ c.g c.f.2.1 c.f.1) ?_))))));rintro _ _ _ _ _ c ⟨O,c8,rfl,x,za⟩;replace c:=c.aS za;refine eC 4 9 c (fun _ _ c=>gj a.num d c1 p oM (b.den:Int) O c8 x (show (lim (b.den)).length≤2000000000 by omega) _ _ c.g c.f.q.1 c.f.1) ?_;rintro _ _ _ _ _ c ⟨zi,Z,rfl,zb,H⟩;replace c:=c.aS H;refine eC 8 13 c (fun _ _ c=>tR a d c1 j i p z oM oM _ _ c.g c.f.q.2.1 c.f.q.1) ?_;rintro _ _ _ _ _ c ⟨L,J,rfl,W,ze⟩;replace c:=c.aS ze;refine eC 9 14 c (fun _ _ c=>gj b.num e c2 o oM (a.den:Int) L J W (show (lim (a.den)).length≤2000000000 by omega) _ _ c.g c.f.q.1 c.f.1) ?_;rintro _ _ _ _ _ c ⟨M,I,rfl,V,X⟩;replace c:=c.aS X;exact aq 10 15 c (fun _ _ c=>AZ (a.num*(b.den:Int)) zi Z zb oM (b.num*(a.den:Int)) M I V oM _ _ c.g c.f.r.1 c.f.1) (fun _ _ c=>ck c (fun _ _ c=>tV 11 4 (iV (dJ (a.num*(b.den:Int)) (b.num*(a.den:Int)))) (tN (kX (c.ret [] (iV (dJ (a.num*(b.den:Int)) (b.num*(a.den:Int)))) rfl)))))
theorem uU (x y:Int){k:Nat}(a:(lim (ab x)).length≤k)(b:(lim (ab y)).length≤k):(lim (ab (x+y))).length≤k+1:=fR (show ab (x+y)≤ab x+ab y from L0 x y) (gK a b)
theorem ni (x y:Int):(lim (ab (x*y))).length≤(lim (ab x)).length+(lim (ab y)).length:=by
 have:ab (x*y)=ab x*ab y:=Lx x y;rw[this];exact fO
theorem si (z:Int)(n:Nat):mkR z (bC false n)=mkRat z n:=by
 have h1:bC false n=(n:Int):=rfl;rw[h1];unfold mkR;rw[MM oM];rfl
theorem x6 (a b:Rat):mkR (a.num*((b.den:Nat):Int)+b.num*((a.den:Nat):Int)) (bC false (a.den*b.den))=a+b:=by
 rw[si,Rat.add_def,L5]
theorem Co (a b:Rat):mkR (a.num*b.num) (bC false (a.den*b.den))=a*b:=by
 rw[si,Rat.mul_def,L5]
theorem Dv (a b:Rat):bC false (a.den*b.den)≠0:=by
 have h:=Nat.mul_pos a.den_pos b.den_pos
 show ((a.den*b.den:Nat):Int)≠0
 omega
theorem Eh (a:Rat)(i:Option Addr)(c1:Nat)(j:Option Addr)(o:Nat)(p:(lim (ab a.num)).length≤c1)(x:(lim a.den).length≤o)(Z:(lim (ab a.num)).length≤300000000)(hm1:(lim a.den).length≤300000000)(b:Rat)(d:Option Addr)(c2:Nat)(e:Option Addr)(l:Nat)(u:(lim (ab b.num)).length≤c2)(y:(lim b.den).length≤l)(K:(lim (ab b.num)).length≤300000000)(Y:(lim b.den).length≤300000000)(w:World)(h:Hp)(g:G w h)(D:S3 i (lim (ab a.num)) h)(B:S3 j (lim a.den) h)(C:S3 d (lim (ab b.num)) h)(z:S3 e (lim b.den) h):CR 144 #[.agg #[.bool (ai a.num),.slice i ((lim (ab a.num)).length) c1,.slice j ((lim (a.den)).length) o],.agg #[.bool (ai b.num),.slice d ((lim (ab b.num)).length) c2,.slice e ((lim (b.den)).length) l]] w h (fun v h1=>RQ h1 v (a+b)):=by
 have c:=(((((sS g).aS D).aS B).aS C).aS z);have hx1:=gV a.num b.den;have hx2:=gV b.num a.den;have O:=uU (a.num*(b.den:Int)) (b.num*(a.den:Int)) (k:=600000000) oM oM;have hdl:=@fO a.den b.den;refine go Tryz.func144 [(0,.agg #[.bool (ai a.num),qS i ((lim (ab a.num)).length) c1,qS j ((lim (a.den)).length) o]),(1,.agg #[.bool (ai b.num),qS d ((lim (ab b.num)).length) c2,qS e ((lim (b.den)).length) l])] rfl (av (lA 2 28 ([.bool (ai a.num),qS i ((lim (ab a.num)).length) c1,qS j ((lim (a.den)).length) o]) c (fun J w2 h3 c=>lA 3 28 ([.bool (ai b.num),qS d ((lim (ab b.num)).length) c2,qS e ((lim (b.den)).length) l]) c (fun F w5 h6 c=>lA 4 28 ec c (fun b7 w8 h9 c=>ah (cR 18 [] mixed c ar ?_))))));refine eV 0 5 (pB J) (eO 1 6 [(2,0,2)] (.agg #[.bool (ai a.num),qS i ((lim (ab a.num)).length) c1]) c (eO 2 7 [(1,0,3)] (.agg #[.bool (ai b.num),qS d ((lim (ab b.num)).length) c2,qS e ((lim (b.den)).length) l]) c (eV 5 10 (pB F) (eO 6 11 [(1,0,2)] (.agg #[.bool (ai b.num),qS d ((lim (ab b.num)).length) c2]) c (eO 7 12 [(2,0,3)] (.agg #[.bool (ai a.num),qS i ((lim (ab a.num)).length) c1,qS j ((lim (a.den)).length) o]) c (eV 11 16 (qP J 2) (eO 12 17 [(2,2,1)] (qS j ((lim (a.den)).length) o) c (eV 13 18 (qP F 2) (eO 14 19 [(1,2,1)] (qS e ((lim (b.den)).length) l) c (eC 3 8 c (fun _ _ c=>tR b d c2 e l u y oM oM _ _ c.g c.f.2.1 c.f.1) ?_))))))))));rintro _ _ _ _ _ c ⟨zx,zA,rfl,ze,zf⟩;replace c:=c.aS zf;refine eC 4 9 c (fun _ _ c=>gj a.num i c1 p oM (b.den:Int) zx zA ze (show (lim (b.den)).length≤2000000000 by omega) _ _ c.g c.f.q.1 c.f.1) ?_;rintro _ _ _ _ _ c ⟨W,zD,rfl,zg,zi⟩;replace c:=c.aS zi;refine eC 8 13 c (fun _ _ c=>tR a i c1 j o p x oM oM _ _ c.g c.f.q.2.1 c.f.q.1) ?_;rintro _ _ _ _ _ c ⟨M,zG,rfl,zj,zk⟩;replace c:=c.aS zk;refine eC 9 14 c (fun _ _ c=>gj b.num d c2 u oM (a.den:Int) M zG zj (show (lim (a.den)).length≤2000000000 by omega) _ _ c.g c.f.q.1 c.f.1) ?_;rintro _ _ _ _ _ c ⟨zH,U,rfl,zl,S⟩;replace c:=c.aS S;refine eC 10 15 c (fun _ _ c=>rY (a.num*(b.den:Int)) W zD zg oM (b.num*(a.den:Int)) zH U zl oM _ _ c.g c.f.r.1 c.f.1) ?_;rintro _ _ _ _ _ c ⟨zJ,zK,rfl,Q,V⟩;replace c:=c.aS V;refine eC 15 20 c (fun _ _ c=>nk a.den j o x b.den e l y oM oM _ _ c.g c.f.q.r.2.1 c.f.q.2.1) ?_;rintro _ _ _ _ _ c ⟨X,zM,rfl,zp,zq⟩;replace c:=c.aS zq;refine eC 16 21 c (fun _ _ c=>rI false (a.den*b.den) X zM zp _ _ c.g c.f.1) ?_;rintro _ _ _ _ _ c ⟨L,zP,rfl,zr,zs⟩;replace c:=c.aS zs;refine eC 17 22 c (fun _ _ c=>vv ((a.num*(b.den:Int))+(b.num*(a.den:Int))) zJ zK Q oM (bC false (a.den*b.den)) L zP zr (show (lim ((a.den*b.den))).length≤2000000000 by omega) (Dv a b) _ _ c.g c.f.r.1 c.f.1) ?_;rintro _ _ _ _ _ c ⟨za,zb,I,H,rfl,zt,zu,zv,zw⟩;replace c:=c.aP zv zw;exact ck c (fun _ _ c=>tP 18 0 0 (cW (mkR ((a.num*(b.den:Int))+(b.num*(a.den:Int))) (bC false (a.den*b.den))) za zb I H) c (fun _ c=>tN (kX (c.ret [(0,0,3)] (rG (mkR ((a.num*(b.den:Int))+(b.num*(a.den:Int))) (bC false (a.den*b.den))) za zb I H) (by rw[←x6 a b];exact ⟨_,_,_,_,rfl,zt,zu,c.f.2.1,c.f.1⟩)))))
theorem G7 (a:Rat)(e:Option Addr)(c1:Nat)(i:Option Addr)(d:Nat)(C:(lim (ab a.num)).length≤c1)(x:(lim a.den).length≤d)(W:(lim (ab a.num)).length≤300000000)(hm1:(lim a.den).length≤300000000)(b:Rat)(j:Option Addr)(c2:Nat)(l:Option Addr)(k:Nat)(o:(lim (ab b.num)).length≤c2)(z:(lim b.den).length≤k)(J:(lim (ab b.num)).length≤300000000)(S:(lim b.den).length≤300000000)(w:World)(h:Hp)(g:G w h)(B:S3 e (lim (ab a.num)) h)(y:S3 i (lim a.den) h)(u:S3 j (lim (ab b.num)) h)(p:S3 l (lim b.den) h):CR 146 #[.agg #[.bool (ai a.num),.slice e ((lim (ab a.num)).length) c1,.slice i ((lim (a.den)).length) d],.agg #[.bool (ai b.num),.slice j ((lim (ab b.num)).length) c2,.slice l ((lim (b.den)).length) k]] w h (fun v h1=>RQ h1 v (a*b)):=by
 have c:=(((((sS g).aS B).aS y).aS u).aS p);have Y:=ni a.num b.num;have hdl:=@fO a.den b.den;refine go Tryz.func146 [(0,.agg #[.bool (ai a.num),qS e ((lim (ab a.num)).length) c1,qS i ((lim (a.den)).length) d]),(1,.agg #[.bool (ai b.num),qS j ((lim (ab b.num)).length) c2,qS l ((lim (b.den)).length) k])] rfl (av (lA 2 28 ([.bool (ai a.num),qS e ((lim (ab a.num)).length) c1,qS i ((lim (a.den)).length) d]) c (fun F w2 h3 c=>lA 3 28 ([.bool (ai b.num),qS j ((lim (ab b.num)).length) c2,qS l ((lim (b.den)).length) k]) c (fun I w5 h6 c=>lA 4 28 ec c (fun b7 w8 h9 c=>ah (cR 12 [] mixed c ar ?_))))));refine eV 0 5 (pB F) (eO 1 6 [(2,0,2)] (.agg #[.bool (ai a.num),qS e ((lim (ab a.num)).length) c1]) c (eV 2 7 (pB I) (eO 3 8 [(1,0,2)] (.agg #[.bool (ai b.num),qS j ((lim (ab b.num)).length) c2]) c (eV 5 10 (qP F 2) (eO 6 11 [(2,2,1)] (qS i ((lim (a.den)).length) d) c (eV 7 12 (qP I 2) (eO 8 13 [(1,2,1)] (qS l ((lim (b.den)).length) k) c (eC 4 9 c (fun _ _ c=>gj a.num e c1 C oM b.num j c2 o oM _ _ c.g c.f.r.2.1 c.f.2.1) ?_))))))));rintro _ _ _ _ _ c ⟨M,zq,rfl,ze,Z⟩;replace c:=c.aS Z;refine eC 9 14 c (fun _ _ c=>nk a.den i d x b.den l k z oM oM _ _ c.g c.f.r.2.1 c.f.2.1) ?_;rintro _ _ _ _ _ c ⟨zr,X,rfl,zg,zi⟩;replace c:=c.aS zi;refine eC 10 15 c (fun _ _ c=>rI false (a.den*b.den) zr X zg _ _ c.g c.f.1) ?_;rintro _ _ _ _ _ c ⟨zt,L,rfl,zj,U⟩;replace c:=c.aS U;refine eC 11 16 c (fun _ _ c=>vv (a.num*b.num) M zq ze oM (bC false (a.den*b.den)) zt L zj (show (lim ((a.den*b.den))).length≤2000000000 by omega) (Dv a b) _ _ c.g c.f.r.1 c.f.1) ?_;rintro _ _ _ _ _ c ⟨za,zb,D,H,rfl,Q,V,O,K⟩;replace c:=c.aP O K;exact ck c (fun _ _ c=>tP 12 0 0 (cW (mkR (a.num*b.num) (bC false (a.den*b.den))) za zb D H) c (fun _ c=>tN (kX (c.ret [(0,0,3)] (rG (mkR (a.num*b.num) (bC false (a.den*b.den))) za zb D H) (by rw[←Co a b];exact ⟨_,_,_,_,rfl,Q,V,c.f.2.1,c.f.1⟩)))))
theorem DL (n d:Int)(b:d≠0):mkR n d=(n:Rat)/(d:Rat):=by
 unfold mkR
 have c:(d:Rat)≠0:=by simpa using b
 rcases LB d 0 with h|h|h
 ·rw[MN h,L6]
  have e:((ab d:Nat):Rat) = -(d:Rat):=by
   have:((ab d:Nat):Int) = -d:=by unfold ab;omega
   have a:(((ab d:Nat):Int):Rat)=((-d:Int):Rat):=by rw[this]
   rw[L7,Rat.intCast_neg] at a;exact a
  rw[e];simp;grind
 ·exact MO h b
 ·rw[MM oM,L6]
  have e:((ab d:Nat):Rat)=(d:Rat):=by
   have:((ab d:Nat):Int)=d:=by unfold ab;omega
   have a:(((ab d:Nat):Int):Rat)=((d:Int):Rat):=by rw[this]
   rw[L7] at a;exact a
  rw[e]
theorem BP (a b:Rat)(d:b.num≠0):mkR (a.num*((b.den:Nat):Int)) (((a.den:Nat):Int)*b.num)=a/b:=by
 have ha:=a.den_pos;have e:=b.den_pos;have c:((a.den:Nat):Int)*b.num≠0:=L8 oM d;rw[DL _ _ c];have e1:a=(a.num:Rat)/(a.den:Rat):=by rw[←L6,L9]
 have e2:b=(b.num:Rat)/(b.den:Rat):=by rw[←L6,L9]
 have h1:((a.den:Nat):Rat)≠0:=by simp;omega
 have i:((b.den:Nat):Rat)≠0:=by simp;omega
 have h:((b.num:Int):Rat)≠0:=by simpa using d
 have f:a/b=((a.num:Rat)/(a.den:Rat))/((b.num:Rat)/(b.den:Rat)):=by rw[←e1,←e2]
 rw[f]
 simp only[Rat.intCast_mul,L7]
 generalize (a.num:Rat)=x at *
 generalize (b.num:Rat)=y at *
 generalize ((a.den:Nat):Rat)=z at *
 generalize ((b.den:Nat):Rat)=t at *
 grind
theorem tA {z:Int}(h0 : -9223372036854775808≤z)(h1:z<9223372036854775808):(lim (ab z)).length≤2:=dQ (by unfold ab;omega)
theorem mr (z:Int)(h0 : -9223372036854775808≤z)(h1:z<9223372036854775808)(w:World)(h:Hp)(g:G w h):CR 16 #[iV z] w h (fun v h1=>RQ h1 v (z:Rat)):=by
 have a:=sS g;refine go Tryz.func16 [(0,iV z)] rfl (av (lA 2 28 ec a (fun l w2 o a=>aI (lL a [.m 3 0] (lC 4 a (qh z oM oM _ _ a.g) ?_)))));rintro _ k p a ⟨b,e,rfl,d,c⟩;replace a:=a.aS c;refine lC 5 a (nY 1 oM _ _ a.g) ?_;rintro _ _ _ a ⟨za,zb,rfl,i,j⟩;replace a:=a.aS j;exact lL a [.v 6 (.agg #[.bool (ai z),qS b ((lim (ab z)).length) e,qS za ((lim 1).length) zb])] (lP 0 0 ([.bool (ai z),qS b ((lim (ab z)).length) e,qS za ((lim 1).length) zb]) a (fun _ a=>ac a [(0,0,3)] (.agg #[.bool (ai z),qS b ((lim (ab z)).length) e,qS za ((lim 1).length) zb]) (by unfold RQ;rw[LU,LW];exact ⟨_,_,_,_,rfl,d,i,a.f.2.1,a.f.1⟩)))
theorem FA (a:Rat)(d:Option Addr)(c1:Nat)(j:Option Addr)(i:Nat)(p:(lim (ab a.num)).length≤c1)(z:(lim a.den).length≤i)(X:(lim (ab a.num)).length≤300000000)(hm1:(lim a.den).length≤300000000)(b:Rat)(e:Option Addr)(c2:Nat)(l:Option Addr)(k:Nat)(o:(lim (ab b.num)).length≤c2)(C:(lim b.den).length≤k)(I:(lim (ab b.num)).length≤300000000)(S:(lim b.den).length≤300000000)(u:b.num≠0)(w:World)(h:Hp)(g:G w h)(D:S3 d (lim (ab a.num)) h)(B:S3 j (lim a.den) h)(y:S3 e (lim (ab b.num)) h)(x:S3 l (lim b.den) h):CR 147 #[.agg #[.bool (ai a.num),.slice d ((lim (ab a.num)).length) c1,.slice j ((lim (a.den)).length) i],.agg #[.bool (ai b.num),.slice e ((lim (ab b.num)).length) c2,.slice l ((lim (b.den)).length) k]] w h (fun v h1=>RQ h1 v (a/b)):=by
 have c:=(((((sS g).aS D).aS B).aS y).aS x);have Z:=gV a.num b.den;have hx2:(lim (ab ((a.den:Int)*b.num))).length≤600000000:=ez (ni (a.den:Int) b.num) (by show (lim a.den).length+_≤_;omega);refine go Tryz.func147 [(0,.agg #[.bool (ai a.num),qS d ((lim (ab a.num)).length) c1,qS j ((lim (a.den)).length) i]),(1,.agg #[.bool (ai b.num),qS e ((lim (ab b.num)).length) c2,qS l ((lim (b.den)).length) k])] rfl (av (lA 2 28 ([.bool (ai a.num),qS d ((lim (ab a.num)).length) c1,qS j ((lim (a.den)).length) i]) c (fun b1 w2 h3 c=>lA 3 28 ([.bool (ai b.num),qS e ((lim (ab b.num)).length) c2,qS l ((lim (b.den)).length) k]) c (fun b4 w5 h6 c=>lA 4 28 ec c (fun b7 w8 h9 c=>ah (cR 11 [] mixed c ar ?_))))));refine eV 0 5 (pB b1) (eO 1 6 [(2,0,2)] (.agg #[.bool (ai a.num),qS d ((lim (ab a.num)).length) c1]) c (eO 2 7 [(1,0,3)] (.agg #[.bool (ai b.num),qS e ((lim (ab b.num)).length) c2,qS l ((lim (b.den)).length) k]) c (eO 5 10 [(2,0,3)] (.agg #[.bool (ai a.num),qS d ((lim (ab a.num)).length) c1,qS j ((lim (a.den)).length) i]) c (eV 7 12 (pB b4) (eO 8 13 [(1,0,2)] (.agg #[.bool (ai b.num),qS e ((lim (ab b.num)).length) c2]) c (eC 3 8 c (fun _ _ c=>tR b e c2 l k o C oM oM _ _ c.g c.f.2.1 c.f.1) ?_))))));rintro _ _ _ _ _ c ⟨zr,Y,rfl,ze,zf⟩;replace c:=c.aS zf;refine eC 4 9 c (fun _ _ c=>gj a.num d c1 p oM (b.den:Int) zr Y ze (show (lim (b.den)).length≤2000000000 by omega) _ _ c.g c.f.q.1 c.f.1) ?_;rintro _ _ _ _ _ c ⟨zt,K,rfl,zg,zi⟩;replace c:=c.aS zi;refine eC 6 11 c (fun _ _ c=>tR a d c1 j i p z oM oM _ _ c.g c.f.q.2.1 c.f.q.1) ?_;rintro _ _ _ _ _ c ⟨W,zw,rfl,zj,U⟩;replace c:=c.aS U;refine eC 9 14 c (fun _ _ c=>gj (a.den:Int) W zw zj (show (lim (a.den)).length≤2000000000 by omega) b.num e c2 o oM _ _ c.g c.f.1 c.f.q.1) ?_;rintro _ _ _ _ _ c ⟨O,zA,rfl,Q,V⟩;replace c:=c.aS V;refine eC 10 15 c (fun _ _ c=>vv (a.num*(b.den:Int)) zt K zg oM ((a.den:Int)*b.num) O zA Q oM (L8 (by have:=a.den_pos;omega) u) _ _ c.g c.f.r.1 c.f.1) ?_;rintro _ _ _ _ _ c ⟨za,zb,F,H,rfl,M,J,L,zq⟩;replace c:=c.aP L zq;exact ck c (fun _ _ c=>tP 11 0 0 (cW (mkR (a.num*(b.den:Int)) ((a.den:Int)*b.num)) za zb F H) c (fun _ c=>tN (kX (c.ret [(0,0,3)] (rG (mkR (a.num*(b.den:Int)) ((a.den:Int)*b.num)) za zb F H) (by rw[←BP a b u];exact ⟨_,_,_,_,rfl,M,J,c.f.2.1,c.f.1⟩)))))
theorem ED {P:Program}{Γ:bz}{o:Oper}{t u:TypeId}{x y:Operand}{k ky:IntKind}{a n:Nat}(b:o.op=.binOp .shr t x y u)(c:ev Γ x=.int k (a:Int))(e:ev Γ y=.int ky (n:Int))(d:n≤k.bits)(w:World) :
  (execOp (ev Γ) o).run P w=.ok (.value (.int k ((a/2^n:Nat):Int))) w:=by
 have:=GU (P:=P) b c e d w;rw[show ((a:Int)/2^n)=((a/2^n:Nat):Int) by simp] at this
 exact this
theorem wI {P:Program}{Γ:bz}{o:Oper}{t u:TypeId}{x y:Operand}{ky:IntKind}{a n:Nat}(b:o.op=.binOp .shl t x y u)(c:ev Γ x=.int .u32 (a:Int))(e:ev Γ y=.int ky (n:Int))(d:n≤32)(hf:a*2^n<4294967296)(w:World) :
  (execOp (ev Γ) o).run P w=.ok (.value (.int .u32 ((a*2^n:Nat):Int))) w:=by
 have:=HK (P:=P) b c e d w;rw[show ((a:Int)*2^n)=((a*2^n:Nat):Int) by simp,Ht hf] at this
 exact this
theorem ud (a:Nat)(A:Option Addr)(c:Nat)(W:(lim a).length≤c)(H:(lim a).length≤4000000000)(w:World)(h:Hp)(g:G w h)(X:S3 A (lim a) h):CR 90 #[.slice A ((lim a).length) c] w h (fun v h1=>∃ A,v=.slice A ((nb a+7)/8) ((nb a+7)/8)∧SlO 1 mq 0 h1 A (fs a ((nb a+7)/8))):=by
 have e:=((sS g).aS X);have Y:=p5 a;refine go Tryz.func90 [(0,qS A ((lim a).length) c)] rfl (aa e [.v 2 (sZ)] (aI (lL e [.m 6 0] (ag 7 e (oW a A c W H _ _ e.g e.f.1) (fun w1 h2 e=>bD 8 ((nb a:Nat)+7) ((nb a)+7) (lV 9 (nV (((nb a)+7)/8)) ?_ (hr:=aK (dl (t:=3) (u:=3) (x:=.tmp 8) (y:=.const (iV 8)) (k:=.i64) (a:=(((nb a)+7:Nat):Int)) (b:=(8:Int)) kR kR kR oM _) (dh ((nb a)+7) 8 oM))))))));refine lL e [.m 3 9] (aI (lL e [.m 10 3] (lK 11 5 (((nb a)+7)/8:Nat) 1 1 (.int .u8 0) mq 0 e (fun p w4 O e=>?_))));have F:(Am (((nb a)+7)/8:Nat) 0).length=(((nb a)+7)/8:Nat):=by simp
 refine lL e [.m 4 11] (ah (aa e [.v 5 (iV 0)] (a8 ?_)));refine bH _ (CG.loop (fun D Γ Z=>∃ (i:Nat) (l:List Nat) (h_:Hp),D=((nb a+7)/8)-i∧Γ=[(0,qS A ((lim a).length) c),(2,sZ),(3,nV (((nb a)+7)/8)),(4,qS (sB p) (((nb a)+7)/8:Nat) (((nb a)+7)/8:Nat)),(5,nV i)]∧SS w h Z h_ [⟨p,5,(l).flatMap mq⟩] [] [S3 A (lim a)]∧i≤((nb a+7)/8)∧l.length=((nb a+7)/8)∧(∀ j,j<i→l.getD (((nb a+7)/8)-1-j) 0=a/256^j%256)) _ ⟨0,Am (((nb a)+7)/8:Nat) 0,O,rfl,rfl,e.to _ _,K7 _,F,(fun j I=>MO I oM)⟩ ?_);rintro _ _ w7 ⟨i,l,h8,M,rfl,e,hi,z,K⟩;have U:=(Ld.lim a).get (i/4);refine cQ (aa e [.m 12 5,.m 13 3] ?_);cases za:(decide ((i:Int)<((((nb a)+7)/8:Nat):Int)))
 ·
  have zb:=oF za;refine lB 14 za (af (CG.exit ?_))
  show CG _ _ _ _ _ _ _ _
  refine aa e [.m 34 4,.m 2 34] (lN (kX ?_));have S:i=((nb a+7)/8):=by omega
  have C:l=fs a ((nb a+7)/8):=pS z (fun j I=>K j oM);rw[C] at e
  obtain ⟨_,e,B,L,J⟩:=e.pub 0;replace e:=(e.to [] []).aS (SlO.of_flat (sz:=1) (f:=mq) (d:=0) (b:=p) (o:=0) (l:=fs a ((nb a+7)/8)) (fun _=>rfl) B);exact e.ret [] (qS (sB p) (((nb a)+7)/8:Nat) (((nb a)+7)/8:Nat)) (⟨sB p,rfl,e.f.1⟩)
 have zb:=oT za;refine lB 14 za (ak (cK (cQ (kZ (kQ (lL e [.m 17 4,.m 18 3] (bD 19 ((((nb a)+7)/8:Nat)-1) ((((nb a)+7)/8:Nat)-1) ?_)))))));refine lL e [.m 20 5] (bD 21 (((((nb a)+7)/8:Nat)-1:Nat)-(i:Nat)) (((((nb a)+7)/8:Nat)-1:Nat)-i) ?_);refine lL e [.m 22 0,.m 23 5] (lV 24 (nV (i/4)) ?_ (hr:=aK (dl (t:=3) (u:=3) (x:=.tmp 23) (y:=.const (iV 4)) (k:=.i64) (a:=(i:Int)) (b:=(4:Int)) kR kR kR oM _) (dh i 4 oM)));refine lX 25 A ((lim a).length) c 1 (i/4:Nat) (i/4) ((e.f.1).ok oM) (lH 26 (mW ((lim a).getD (i/4) 0)) e ((e.f.1).el (i/4) oM) (lL e [.m 27 5] (lV 28 (nV (i%4)) ?_ (hr:=aK (dU (t:=3) (u:=3) (x:=.tmp 27) (y:=.const (iV 4)) (k:=.i64) (a:=(i:Int)) (b:=(4:Int)) kR kR kR oM _) (cp i 4)))));refine bD 29 (8*(i%4:Nat)) (8*(i%4)) (lV 30 (mV (8*(i%4))) ?_ (hr:=rU (((8*(i%4):Nat):Int)) kR (ba oM oM)));refine lV 31 (mW ((lim a).getD (i/4) 0/2^(8*(i%4)))) ?_ (hr:=ED (t:=139) (u:=140) (x:=.tmp 26) (y:=.tmp 30) (k:=.u32) (ky:=.u64) (a:=(lim a).getD (i/4) 0) (n:=8*(i%4)) kR kR kR (show 8*(i%4)≤32 by omega) _);refine lV 32 (.int .u8 ((lim a).getD (i/4) 0/2^(8*(i%4))%256:Nat)) ?_ (hr:=aK (n:=JJ .u8 (((lim a).getD (i/4) 0/2^(8*(i%4)):Nat):Int)) kR (AV _));refine lX 33 (sB p) (((nb a)+7)/8:Nat) (((nb a)+7)/8:Nat) 1 (((((nb a)+7)/8:Nat)-1:Nat)-i:Nat) (((((nb a)+7)/8:Nat)-1:Nat)-i:Nat) rfl (lW 0 l mq 1 (((((nb a)+7)/8:Nat)-1:Nat)-i:Nat) ((lim a).getD (i/4) 0/2^(8*(i%4))%256:Nat) e oM (fun _ e=>?_));have Q:((l).set (((((nb a)+7)/8:Nat)-1:Nat)-i:Nat) ((lim a).getD (i/4) 0/2^(8*(i%4))%256:Nat)).length=(((nb a)+7)/8:Nat):=by rw[KP];exact z
 replace e:=e.to [⟨p,5,((l).set (((((nb a)+7)/8:Nat)-1:Nat)-i:Nat) ((lim a).getD (i/4) 0/2^(8*(i%4))%256:Nat)).flatMap mq⟩] [];refine lN (kQ (lL e [.m 15 5] (bD 16 ((i:Nat)+1) (i+1) ?_)));refine lL e [.m 5 16] (lD ?_);intro a_ V;refine ⟨_,_,?_,⟨i+1,(l).set (((((nb a)+7)/8:Nat)-1:Nat)-i:Nat) ((lim a).getD (i/4) 0/2^(8*(i%4))%256:Nat),h8,rfl,rfl,e.to _ _,oM,Q,(gc z oM K (xi a i))⟩,V.to _ kR⟩
 omega
theorem te {n m:Nat}(h:n<256^m):∀ j,j<(m+3)/4→(Am ((m+3)/4) 0).getD j 0=fd n (m-0) j:=fun j a=>by
 rw[Nat.sub_zero,xK h];simp[a]
theorem t7 {l:List Nat}{n m i x:Nat}(hi:i<m)(c:l.length=(m+3)/4)(hv:∀ j,j<(m+3)/4→l.getD j 0=fd n (m-i) j)(a:x=fd n (m-1-i) ((m-1-i)/4)) :
  ∀ j,j<(m+3)/4→(l.set ((m-1-i)/4) x).getD j 0=fd n (m-(i+1)) j:=by
 intro j b;rw[show m-(i+1)=m-1-i by omega]
 by_cases e:j=(m-1-i)/4
 ·subst e
  have:(m-1-i)/4<l.length:=by omega
  simp[this,a]
 ·rw[ng,MM e,show m-1-i+1=m-i by omega,←hv j b]
  simp only[Kl]
  rw[List.getElem?_set_ne (Ne.symm e)]
theorem ry {n k:Nat}:fd n (k+1) (k/4) ||| (n/256^k%256)*2^(8*(k%4))=fd n k (k/4):=by rw[ng n k (k/4),MN rfl]
theorem mU {b k:Nat}(a:b<256):b*2^(8*(k%4))<4294967296:=by
 have:k%4=0∨k%4=1∨k%4=2∨k%4=3:=by omega
 rcases this with e|e|e|e<;>rw[e]<;>omega
theorem u5 {l:List Nat}{n m:Nat}(c:n<256^m)(d:l.length=(m+3)/4)(hv:∀ j,j<(m+3)/4→l.getD j 0=fd n (m-m) j):aj 4294967296 l=n∧Ld l:=by
 constructor
 ·rw[←jY]
  refine gR l n (fun j a=>by rw[hv j oM,Nat.sub_self,tq]) ?_;refine Nat.lt_of_lt_of_le c ?_;rw[d,show (256:Nat)=2^8 by rfl,show (4294967296:Nat)=2^32 by rfl,←Kg,←Kg];exact Nat.pow_le_pow_right oM oM
 ·intro x b
  obtain ⟨j,a,rfl⟩:=List.mem_iff_getElem.1 b;have:=hv j oM;have e:l[j]=l.getD j 0:=by simp[a]
  rw[e,this];exact nI _ _ _
theorem uD (n m:Nat)(A:Option Addr)(e:Nat)(hc:m≤e)(hm:m≤1099511627776)(S:n<256^m)(w:World)(h:Hp)(g:G w h)(Y:SlO 1 mq 0 h A (fs n m)):CR 164 #[.slice A m e] w h (fun v h1=>RN h1 v n):=by
 have c:=((sS g).aS Y);have W:=jD n m;refine go Tryz.func164 [(0,qS A m e)] rfl (aa c [.v 2 (sZ)] (aI (lL c [.m 6 0,.v 7 (nV m)] (bD 8 ((m:Nat)+3) (m+3) ?_))));refine lV 9 (nV ((m+3)/4)) ?_ (hr:=aK (dl (t:=3) (u:=3) (x:=.tmp 8) (y:=.const (iV 4)) (k:=.i64) (a:=((m+3:Nat):Int)) (b:=(4:Int)) kR kR kR oM _) (dh (m+3) 4 oM));refine lK 10 139 ((m+3)/4) 1 4 (uW 0) aZ 0 c (fun B w2 Z c=>?_);have J:(Am ((m+3)/4) 0).length=((m+3)/4):=by simp
 refine lL c [.m 3 10] (ah (aa c [.v 4 (iV 0)] (a8 ?_)));refine bH _ (CG.loop (fun O Γ w_=>∃ (i:Nat) (l:List Nat) (Q:Hp),O=m-i∧Γ=[(0,qS A m e),(2,sZ),(3,qS (sB B) ((m+3)/4) ((m+3)/4)),(4,nV i)]∧SS w h w_ Q [⟨B,139,(l).flatMap aZ⟩] [] [fun Q=>SlO 1 mq 0 Q A (fs n m)]∧i≤m∧l.length=(m+3)/4∧(∀ j,j<(m+3)/4→l.getD j 0=fd n (m-i) j)) _ ⟨0,Am ((m+3)/4) 0,Z,rfl,rfl,c.to _ _,K7 _,J,(te S)⟩ ?_);rintro _ _ w5 ⟨i,l,h6,hm7,rfl,c,hi,p,hv⟩;refine cQ (aa c [.m 11 4,.m 12 0,.v 13 (nV m)] ?_);cases C:(decide ((i:Int)<(m:Int)))
 ·
  have I:=oF C;refine lB 14 C (af (CG.exit ?_))
  show CG _ _ _ _ _ _ _ _
  refine aa c [.m 42 3] ?_;have K:i=m:=by omega
  rw[K] at hv
  obtain ⟨L,M⟩:=u5 S p hv;obtain ⟨h9,c,F,V,U⟩:=c.pub 0;replace c:=(c.to [] []).aS (SlO.of_flat (sz:=1) (f:=aZ) (d:=0) (b:=B) (o:=0) (l:=l) (fun _=>rfl) F);exact ag 43 c (iG (sB B) ((m+3)/4) l ((m+3)/4) p oM oM _ _ c.g c.f.1) (fun _ _ c=>lL c [.m 2 43] (ac c [] (qS (sB B) (tl l ((m+3)/4)) ((m+3)/4)) (RN.trim M L p oM c.f.1)))
 have I:=oT C;refine lB 14 C (ak (cK (cQ (kZ (aa c [.m 17 0,.v 18 (nV m)] (bD 19 ((m:Nat)-1) (m-1) ?_))))));refine lL c [.m 20 4] (bD 21 ((m-1:Nat)-(i:Nat)) ((m-1)-i) ?_);refine lL c [.m 5 21] (lN (cR 19 [] mixed c ar ?_));refine eV 0 22 (qS (sB B) ((m+3)/4) ((m+3)/4)) (eV 1 23 (nV ((m-1)-i)) (eV 2 24 (nV (((m-1)-i)/4)) ?_ (hv:=fun _=>aK (dl (t:=3) (u:=3) (x:=.tmp 23) (y:=.const (iV 4)) (k:=.i64) (a:=(((m-1)-i:Nat):Int)) (b:=(4:Int)) kR kR kR oM _) (dh ((m-1)-i) 4 oM))));refine eV 3 25 (qS (sB B) ((m+3)/4) ((m+3)/4)) (eV 4 26 (nV ((m-1)-i)) (eV 5 27 (nV (((m-1)-i)/4)) ?_ (hv:=fun _=>aK (dl (t:=3) (u:=3) (x:=.tmp 26) (y:=.const (iV 4)) (k:=.i64) (a:=(((m-1)-i:Nat):Int)) (b:=(4:Int)) kR kR kR oM _) (dh ((m-1)-i) 4 oM))));refine eX 6 28 (sB B) ((m+3)/4) ((m+3)/4) 1 (((m-1)-i)/4:Nat) (((m-1)-i)/4:Nat) rfl (eQ 7 29 0 l aZ 1 0 (((m-1)-i)/4:Nat) (mW ((l).getD (((m-1)-i)/4:Nat) 0)) c oM (eV 8 30 (qS A m e) (eV 9 31 (nV i) (eX 10 32 A m e 1 (i:Nat) i ((c.f.1).ok oM) ?_))));have z:=hv ((m-1-i)/4) oM;have H:l.getD ((m-1-i)/4) 0 ||| (n/256^(m-1-i)%256)*2^(8*((m-1-i)%4))=fd n (m-1-i) ((m-1-i)/4):=by rw[z,show m-i=m-1-i+1 by omega];exact ry
 have D:l.getD ((m-1-i)/4) 0<4294967296:=by rw[z];exact nI _ _ _
 have z:=hv ((m-1-i)/4) oM;have H:l.getD ((m-1-i)/4) 0 ||| (n/256^(m-1-i)%256)*2^(8*((m-1-i)%4))=fd n (m-1-i) ((m-1-i)/4):=by rw[z,show m-i=m-1-i+1 by omega];exact ry
 have D:l.getD ((m-1-i)/4) 0<4294967296:=by rw[z];exact nI _ _ _
 refine JB 11 33 (.int .u8 ((fs n m).getD i 0:Nat)) c ((c.f.1).el i oM) (by rw[ie n m _ oM]) (eV 12 34 (mW (n/256^(m-1-i)%256)) ?_ (hv:=fun _=>rT (((n/256^(m-1-i)%256:Nat):Int)) kR (nG oM oM)));refine eV 13 35 (nV ((m-1)-i)) (eV 14 36 (nV (((m-1)-i)%4)) ?_ (hv:=fun _=>aK (dU (t:=3) (u:=3) (x:=.tmp 35) (y:=.const (iV 4)) (k:=.i64) (a:=(((m-1)-i:Nat):Int)) (b:=(4:Int)) kR kR kR oM _) (cp ((m-1)-i) 4)));refine jy 15 37 (8*(((m-1)-i)%4:Nat)) (8*(((m-1)-i)%4:Nat)) (eV 16 38 (mV (8*(((m-1)-i)%4:Nat))) ?_ (hv:=fun _=>rU (((8*(((m-1)-i)%4:Nat):Nat):Int)) kR (ba oM oM)));refine eV 17 39 (mW ((n/256^(m-1-i)%256)*2^(8*((m-1-i)%4)))) ?_ (hv:=fun _=>wI (t:=139) (u:=140) (x:=.tmp 34) (y:=.tmp 38) (ky:=.u64) (a:=n/256^(m-1-i)%256) (n:=8*((m-1-i)%4)) kR kR kR oM (mU oM) _);refine eV 18 40 (mW (fd n (m-1-i) ((m-1-i)/4))) ?_ (hv:=fun _=>aK (Fr (t:=139) (u:=139) (x:=.tmp 29) (y:=.tmp 39) (a:=l.getD ((m-1-i)/4) 0) (b:=(n/256^(m-1-i)%256)*2^(8*((m-1-i)%4))) kR kR kR D (mU oM) _) (congrArg Int.ofNat H));refine ck c (fun _ zb c=>tX 19 41 (sB B) ((m+3)/4) ((m+3)/4) 1 (((m-1)-i)/4:Nat) (((m-1)-i)/4:Nat) rfl (tW 20 0 l aZ 1 (((m-1)-i)/4:Nat) (fd n (m-1-i) ((m-1-i)/4):Nat) c oM (fun _ c=>?_)));have za:((l).set (((m-1)-i)/4:Nat) (fd n (m-1-i) ((m-1-i)/4):Nat)).length=((m+3)/4):=by rw[KP];exact p
 replace c:=c.to [⟨B,139,((l).set (((m-1)-i)/4:Nat) (fd n (m-1-i) ((m-1-i)/4):Nat)).flatMap aZ⟩] [];refine tN (kQ (lL c [.m 15 4] (bD 16 ((i:Nat)+1) (i+1) ?_)));refine lL c [.m 4 16] (lD ?_);intro a_ X;refine ⟨_,_,?_,⟨i+1,(l).set (((m-1)-i)/4:Nat) (fd n (m-1-i) ((m-1-i)/4):Nat),zb,rfl,rfl,c.to _ _,oM,za,(t7 oM p hv rfl)⟩,X.to _ kR⟩
 omega
def dw (q:Rat):Rat:=if q.num<0 then -q else q
theorem jb (q:Rat):(dw q).num=((ab q.num:Nat):Int):=by
 unfold dw ab;split
 ·rw[LX];omega
 ·omega
theorem kS (q:Rat):(dw q).den=q.den:=by
 unfold dw;split
 ·rw[LY]
 ·rfl
theorem LQ.ln {q:Rat}(h:LQ 100000000 q):(lim (ab q.num)).length≤300000000:=ez (rm _) (by have:=h.1;omega)
theorem LQ.ld {q:Rat}(h:LQ 100000000 q):(lim q.den).length≤300000000:=ez (rm _) (by have:=h.2;omega)
theorem nl {k:Nat}{q:Rat}(h:LQ k q)(a:k≤100000000:=by omega):(lim (ab q.num)).length≤300000000:=LQ.ln (h.mono a)
theorem nD {k:Nat}{q:Rat}(h:LQ k q)(a:k≤100000000:=by omega):(lim q.den).length≤300000000:=LQ.ld (h.mono a)
theorem LQ.abs {k:Nat}{q:Rat}(h:LQ k q):LQ k (dw q):=⟨by rw[jb];exact h.1,by rw[kS];exact h.2⟩
theorem LQ.sub {k l:Nat}{a b:Rat}(ha:LQ k a)(c:LQ l b):LQ (k+l+1) (a-b):=by rw[L2];exact ha.add c.neg
theorem LQ.inv {k:Nat}{q:Rat}(h:LQ k q):LQ k q⁻¹:=by
 by_cases hz:q.num=0
 ·have:q=0:=by rw[←Ma];exact hz
  subst this;rw[Rat.inv_zero];exact h
 ·obtain ⟨h1,a⟩:=qW q hz
  exact ⟨by rw[h1,eD];exact h.2,by rw[a];exact h.1⟩
theorem LQ.div {k l:Nat}{a b:Rat}(ha:LQ k a)(c:LQ l b):LQ (k+l) (a/b):=by rw[Rat.div_def];exact ha.mul c.inv
theorem LQ.int {z:Int}(h0 : -9223372036854775808≤z)(h1:z≤9223372036854775807):LQ 1 (z:Rat):=⟨by rw[LU];exact fU.2 (by unfold ab;omega),by rw[LW];exact fU.2 oM⟩
theorem LQ.lit {z:Int}(h : -9223372036854775808≤z∧z≤9223372036854775807):LQ 1 (z:Rat):=LQ.int h.1 h.2
def FB (a b:List Rat):Nat→Rat
  | 0=>0
  | k+1=>FB a b k+a.getD k 0*b.getD k 0
theorem GX {h:Hp}{v:Value}{a:Rat}(hv:RP h v (-a.num) a.den):RQ h v (-a):=by unfold RQ;rw[LX,LY];exact hv
theorem GF (a:Rat)(e:Option Addr)(c1:Nat)(d:Option Addr)(c:Nat)(u:(lim (ab a.num)).length≤c1)(k:(lim a.den).length≤c)(y:(lim (ab a.num)).length≤300000000)(z:(lim a.den).length≤300000000)(w:World)(h:Hp)(g:G w h)(o:S3 e (lim (ab a.num)) h)(l:S3 d (lim a.den) h):CR 148 #[rG a e c1 d c] w h (fun v h1=>RQ h1 v (-a)):=by
 have b:=(((sS g).aS o).aS l);refine go Tryz.func148 [(0,rG a e c1 d c)] rfl (av (lA 1 28 (cW a e c1 d c) b (fun x w2 C b=>lA 2 28 ec b (fun F D B b=>ah (cR 6 [] mixed b ar ?_)))));refine eV 0 3 (pB x) (eO 1 4 [(1,0,2)] (.agg #[.bool (ai a.num),qS e ((lim (ab a.num)).length) c1]) b (eV 3 6 (qP x 2) (eO 4 7 [(1,2,1)] (qS d ((lim a.den).length) c) b (eC 2 5 b (fun _ _ b=>sn a.num e c1 u oM _ _ b.g b.f.2.1) ?_))));rintro _ _ _ _ _ b ⟨j,p,rfl,i,za⟩;replace b:=b.aS za;exact eV 5 8 (.agg #[.bool (ai (-a.num)),qS j ((lim (ab (-a.num))).length) p,qS d ((lim a.den).length) c]) (ck b (fun _ _ b=>tP 6 0 0 ([.bool (ai (-a.num)),qS j ((lim (ab (-a.num))).length) p,qS d ((lim a.den).length) c]) b (fun _ b=>tN (kX (b.ret [(0,0,3)] (.agg #[.bool (ai (-a.num)),qS j ((lim (ab (-a.num))).length) p,qS d ((lim a.den).length) c]) (GX ⟨_,_,_,_,rfl,i,k,b.f.1,b.f.2.1⟩))))))
theorem G5 (a:Rat)(e:Option Addr)(c1:Nat)(d:Option Addr)(c:Nat)(x:(lim (ab a.num)).length≤c1)(k:(lim a.den).length≤c)(y:(lim (ab a.num)).length≤300000000)(z:(lim a.den).length≤300000000)(w:World)(h:Hp)(g:G w h)(p:S3 e (lim (ab a.num)) h)(l:S3 d (lim a.den) h):CR 150 #[rG a e c1 d c] w h (fun v h1=>RQ h1 v (dw a)):=by
 have b:=(((sS g).aS p).aS l);refine go Tryz.func150 [(0,rG a e c1 d c)] rfl (av (lA 1 28 (cW a e c1 d c) b (fun o w2 C b=>lA 2 28 ec b (fun F D B b=>ah (cR 7 [] mixed b ar ?_)))));refine eV 0 3 (pB o) (eV 1 4 (qP o 1) (eO 2 5 [(1,1,1)] (qS e ((lim (ab a.num)).length) c1) b (eV 4 7 (qP o 2) (eO 5 8 [(1,2,1)] (qS d ((lim a.den).length) c) b (eC 3 6 b (fun _ _ b=>rI false (ab a.num) e c1 x _ _ b.g b.f.2.1) ?_)))));rintro _ _ _ _ _ b ⟨j,u,rfl,i,za⟩;replace b:=b.aS za;exact eV 6 9 (.agg #[.bool (ai (bC false (ab a.num))),qS j ((lim (ab (bC false (ab a.num)))).length) u,qS d ((lim a.den).length) c]) (ck b (fun _ _ b=>tP 7 0 0 ([.bool (ai (bC false (ab a.num))),qS j ((lim (ab (bC false (ab a.num)))).length) u,qS d ((lim a.den).length) c]) b (fun _ b=>tN (kX (b.ret [(0,0,3)] (.agg #[.bool (ai (bC false (ab a.num))),qS j ((lim (ab (bC false (ab a.num)))).length) u,qS d ((lim a.den).length) c]) (by unfold RQ;rw[jb,kS];exact ⟨_,_,_,_,rfl,i,k,b.f.1,b.f.2.1⟩))))))
theorem Iu (a:Rat)(e:Option Addr)(c1:Nat)(i:Option Addr)(d:Nat)(I:(lim (ab a.num)).length≤c1)(z:(lim a.den).length≤d)(C:(lim (ab a.num)).length≤300000000)(H:(lim a.den).length≤300000000)(b:Rat)(j:Option Addr)(c2:Nat)(l:Option Addr)(k:Nat)(u:(lim (ab b.num)).length≤c2)(D:(lim b.den).length≤k)(o:(lim (ab b.num)).length≤300000000)(p:(lim b.den).length≤300000000)(w:World)(h:Hp)(g:G w h)(F:S3 e (lim (ab a.num)) h)(B:S3 i (lim a.den) h)(y:S3 j (lim (ab b.num)) h)(x:S3 l (lim b.den) h):CR 145 #[rG a e c1 i d,rG b j c2 l k] w h (fun v h1=>RQ h1 v (a-b)):=by
 have c:=(((((sS g).aS F).aS B).aS y).aS x);refine go Tryz.func145 [(0,rG a e c1 i d),(1,rG b j c2 l k)] rfl (av (lA 2 28 (cW a e c1 i d) c (fun b1 w2 h3 c=>lA 3 28 (cW b j c2 l k) c (fun b4 w5 h6 c=>lA 4 28 ec c (fun b7 w8 h9 c=>ah (cR 4 [] mixed c ar ?_))))));refine eO 0 5 [(2,0,3)] (rG a e c1 i d) c (eO 1 6 [(1,0,3)] (rG b j c2 l k) c (eC 2 7 c (fun _ _ c=>GF b j c2 l k u D o p _ _ c.g c.f.2.1 c.f.1) ?_));rintro _ _ _ _ _ c ⟨O,L,M,Z,rfl,ze,V,W,Y⟩;replace c:=c.aP W Y;refine eC 3 8 c (fun _ _ c=>Eh a e c1 i d I z C H (-b) O L M Z ze V (by rw[LX];unfold ab;rw[L1];exact o) (by rw[LY];exact p) _ _ c.g c.f.q.2.1 c.f.q.1 c.f.2.1 c.f.1) ?_;rintro _ _ _ _ _ c ⟨za,zb,J,K,rfl,X,S,Q,U⟩;replace c:=c.aP Q U;exact ck c (fun _ _ c=>tP 4 0 0 (cW (a+(-b)) za zb J K) c (fun _ c=>tN (kX (c.ret [(0,0,3)] (rG (a+(-b)) za zb J K) (by rw[L2];exact ⟨_,_,_,_,rfl,X,S,c.f.2.1,c.f.1⟩)))))
theorem li (a:Nat)(A:Option Addr)(c:Nat)(k:(lim a).length≤c)(b:Nat)(D:Option Addr)(d:Nat)(o:(lim b).length≤d)(e:(lim a).length≤3000000000)(u:(lim b).length≤1)(p:0<b)(w:World)(h:Hp)(g:G w h)(l:S3 A (lim a) h)(i:S3 D (lim b) h):CR 170 #[.slice A (lim a).length c,.slice D (lim b).length d] w h (fun v h1=>∃ j f,v=.tuple #[j,f]∧RN h1 j (a/b)∧RN h1 f (a%b)):=by
 have x:=bV.2 p
 rcases ep a b with h1|h1
 ·exact na a A c k b D d o e oM h1 w h g l i
 ·exact lg a A c k b D d o e oM h1 oM w h g l i
theorem vB (a:Nat)(A:Option Addr)(c:Nat)(Y:(lim a).length≤c)(b:Nat)(D:Option Addr)(d:Nat)(hd:(lim b).length≤d)(H:(lim a).length≤3000000000)(F:(lim b).length≤1)(w:World)(h:Hp)(g:G w h)(Z:S3 A (lim a) h)(V:S3 D (lim b) h):CR 169 #[.slice A ((lim a).length) c,.slice D ((lim b).length) d] w h (fun v h1=>RN h1 v (La a b)):=by
 have e:=(((sS g).aS Z).aS V);refine go Tryz.func169 [(0,qS A ((lim a).length) c),(1,qS D ((lim b).length) d)] rfl (aa e [.v 4 (sZ)] (ah (kZ ?_)));replace e:=e.aS e.f.1;replace e:=e.aS e.f.r.1;refine bH _ (CG.loop (fun z Γ w_=>∃ (x:Nat) (j:Option Addr) (c1:Nat) (y:Nat) (o:Option Addr) (c2:Nat) (C:Hp),z=y∧Γ=[(4,sZ),(0,qS j ((lim x).length) c1),(1,qS o ((lim y).length) c2)]∧SS w h w_ C [] [] [S3 j (lim x),S3 o (lim y),S3 D (lim b),S3 A (lim a)]∧(lim x).length≤c1∧(lim y).length≤c2∧(lim x).length≤3000000000∧(lim y).length≤1∧La x y=La a b) _ ⟨a,A,c,b,D,d,h,rfl,rfl,e.to _ _,Y,hd,H,F,rfl⟩ ?_);rintro _ _ w1 ⟨x,j,c1,y,o,c2,h2,hm3,rfl,e,p,k,U,Q,K⟩;refine cQ (aa e [.m 7 1,.v 8 (nV ((lim y).length))] ?_);cases i:(decide ((0:Int)<(((lim y).length:Nat):Int)))
 ·
  have l:=oF i;refine lB 9 i (af (CG.exit ?_))
  show CG _ _ _ _ _ _ _ _
  refine aa e [.m 18 0,.m 4 18] (lN (kX ?_));have B:y=0:=Nat.eq_zero_of_not_pos (fun C=>by have:=bV.2 C;omega);exact e.ret [] (qS j ((lim x).length) c1) (by rw[←K,B,Lw];exact ⟨j,c1,rfl,p,e.f.1⟩)
 have l:=oT i;refine lB 9 i (ak (cK (kZ (aa e [.m 11 0,.m 12 1] (lC 13 e (li x j c1 p y o c2 k oM oM (bV.1 oM) _ _ e.g e.f.1 e.f.2.1) ?_)))));rintro _ w5 L e ⟨_,_,rfl,⟨M,S,rfl,hcq,hq⟩,⟨J,I,rfl,u,hr⟩⟩;replace e:=e.aS hr;have O:=A4 x (bV.1 (show 0<(lim y).length by omega));have W:=dg (show x%y≤y by omega);refine lL e [.m 10 13,.v 14 (qS M (lim (x/y)).length S),.v 15 (qS J ((lim (x%y)).length) I),.m 5 14,.m 6 15] (aI (lL e [.m 16 1,.m 0 16] (lN (kQ (lL e [.m 17 6,.m 1 17] (lD ?_))))));intro a_ X;replace e:=((e.tl.tl.tl.aS e.f.1).aS e.f.r.1);refine ⟨_,_,?_,⟨y,o,c2,x%y,J,I,L,rfl,rfl,e.to _ _,k,u,oM,oM,(by rw[iK];exact K)⟩,X.to _ kR⟩
 omega
theorem uf (a:Nat)(A:Option Addr)(c:Nat)(k:(lim a).length≤c)(b:Nat)(D:Option Addr)(d:Nat)(o:(lim b).length≤d)(q:Nat)(j:q=La a b)(f:(lim a).length≤3000000000)(e:(lim b).length≤1)(w:World)(h:Hp)(g:G w h)(l:S3 A (lim a) h)(i:S3 D (lim b) h):CR 169 #[.slice A (lim a).length c,.slice D (lim b).length d] w h (fun v h1=>RN h1 v q):=by
 subst j;exact vB a A c k b D d o f e w h g l i
theorem qt {z:Int}(h0 : -4294967296<z)(h1:z<4294967296):(lim (ab z)).length≤1:=dQ (by unfold ab;omega)
theorem D8 (x:Int)(A:Option Addr)(c:Nat)(J:(lim (ab x)).length≤c)(Z:(lim (ab x)).length≤2000000000)(y:Int)(D:Option Addr)(d:Nat)(K:(lim (ab y)).length≤d)(k:(lim (ab y)).length≤1)(B:y≠0)(w:World)(h:Hp)(g:G w h)(Y:S3 A (lim (ab x)) h)(W:S3 D (lim (ab y)) h):CR 131 #[.agg #[.bool (ai x),.slice A ((lim (ab x)).length) c],.agg #[.bool (ai y),.slice D ((lim (ab y)).length) d]] w h (fun v h1=>RQ h1 v (mkR x y)):=by
 have a:=(((sS g).aS Y).aS W);obtain ⟨j,i,hq0⟩:=nh x y B;obtain ⟨q,hq⟩:∃ q,q=La (ab x) (ab y):=⟨_,rfl⟩;rw[←hq] at j i hq0
 have X:(lim q).length≤1:=fR (by rw[hq];exact LZ _ (by unfold ab;omega)) k;refine go Tryz.func131 [(0,.agg #[.bool (ai x),qS A ((lim (ab x)).length) c]),(1,.agg #[.bool (ai y),qS D ((lim (ab y)).length) d])] rfl (av (lA 2 26 ([.bool (ai x),qS A ((lim (ab x)).length) c]) a (fun p w2 h3 a=>lA 3 26 ([.bool (ai y),qS D ((lim (ab y)).length) d]) a (fun z w5 h6 a=>lA 4 28 ec a (fun b7 w8 h9 a=>aI (lL a [.v 10 (qP p 1),.o 11 (qS A ((lim (ab x)).length) c) 2 1 1,.v 12 (qP z 1),.o 13 (qS D ((lim (ab y)).length) d) 1 1 1] (lC 14 a (uf (ab x) A c J (ab y) D d K q hq oM oM _ _ a.g a.f.2.1 a.f.1) ?_)))))));rintro _ _ _ a ⟨F,H,rfl,C,V⟩;replace a:=a.aS V;refine lL a [.m 5 14] (aI (lL a [.v 16 (qP p 1),.o 17 (qS A ((lim (ab x)).length) c) 2 1 1,.m 18 5] (lC 19 a (li (ab x) A c J q F H C oM oM hq0 _ _ a.g a.f.r.1 a.f.1) ?_)));rintro _ _ _ a ⟨_,b,rfl,⟨L,I,rfl,S,U⟩,-⟩;replace a:=a.aS U;refine lL a [.m 15 19,.v 20 (qS L ((lim ((ab x)/q)).length) I),.v 21 b,.m 6 20,.m 7 21] (aI (lL a [.v 23 (qP z 1),.o 24 (qS D ((lim (ab y)).length) d) 1 1 1,.m 25 5] (lC 26 a (li (ab y) D d K q F H C oM oM hq0 _ _ a.g a.f.r.1 a.f.2.1) ?_)));rintro _ _ _ a ⟨_,e,rfl,⟨za,zb,rfl,Q,M⟩,-⟩;replace a:=a.aS M;refine lL a [.m 22 26,.v 27 (qS za ((lim ((ab y)/q)).length) zb),.v 28 e,.m 8 27,.m 9 28] (aI (lL a [.v 29 (pB p),.o 30 (.bool (ai x)) 2 0 1,.v 31 (pB z),.o 32 (.bool (ai y)) 1 0 1,.v 33 (.bool ((ai x) != (ai y))),.m 34 6] (lC 35 a (rI ((ai x) != (ai y)) ((ab x)/q) L I S _ _ a.g a.f.2.1) ?_)));rintro _ _ _ a ⟨u,l,rfl,O,zq⟩;replace a:=a.aS zq;exact lL a [.m 36 8,.v 37 (.agg #[.bool (ai (bC ((ai x) != (ai y)) ((ab x)/q))),qS u ((lim (ab (bC ((ai x) != (ai y)) ((ab x)/q)))).length) l,qS za ((lim ((ab y)/q)).length) zb])] (lP 0 0 ([.bool (ai (bC ((ai x) != (ai y)) ((ab x)/q))),qS u ((lim (ab (bC ((ai x) != (ai y)) ((ab x)/q)))).length) l,qS za ((lim ((ab y)/q)).length) zb]) a (fun _ a=>ac a [(0,0,3)] (.agg #[.bool (ai (bC ((ai x) != (ai y)) ((ab x)/q))),qS u ((lim (ab (bC ((ai x) != (ai y)) ((ab x)/q)))).length) l,qS za ((lim ((ab y)/q)).length) zb]) (by unfold RQ;rw[j,i];exact ⟨_,_,_,_,rfl,O,Q,a.f.1,a.f.2.1⟩)))
theorem Fa (x y:Int)(d:y≠0)(h0 : -9223372036854775808≤x)(h1:x<9223372036854775808)(B : -4294967296<y)(j:y<4294967296)(w:World)(h:Hp)(g:G w h):CR 77 #[iV x,iV y] w h (fun v h1=>RQ h1 v (mkR x y)):=by
 have a:=sS g;have k:=tA h0 h1;have l:=qt B j;refine go Tryz.func77 [(0,iV x),(1,iV y)] rfl (av (lA 4 28 ec a (fun L w2 j a=>aI (lL a [.m 5 0] (lC 6 a (qh x oM oM _ _ a.g) ?_)))));rintro _ K M a ⟨o,H,rfl,c,b⟩;replace a:=a.aS b;refine lL a [.m 7 1] (lC 8 a (qh y oM oM _ _ a.g) ?_);rintro _ _ _ a ⟨p,u,rfl,J,C⟩;replace a:=a.aS C;refine lC 9 a (D8 x o H c oM y p u J oM d _ _ a.g a.f.2.1 a.f.1) ?_;rintro _ _ _ a ⟨za,zb,e,i,rfl,D,I,F,z⟩;replace a:=a.aP F z;exact lP 0 0 (cW (mkR x y) za zb e i) a (fun _ a=>ac a [(0,0,3)] (rG (mkR x y) za zb e i) (by skip;exact ⟨_,_,_,_,rfl,D,I,a.f.2.1,a.f.1⟩))
theorem F8 (a:Nat)(A:Option Addr)(c:Nat)(j:(lim a).length≤c)(z:(lim a).length≤300000000)(w:World)(h:Hp)(g:G w h)(k:S3 A (lim a) h):CV 54 #[.slice A ((lim a).length) c] w h (nv a):=by
 have b:=((sS g).aS k);have e:=p5 a;refine go Tryz.func54 [(0,qS A ((lim a).length) c)] rfl (av (lA 2 36 ([uV 0,eS]) b (fun u w2 x b=>aI (lL b [.m 3 0] (lC 4 b (ud a A c j oM _ _ b.g b.f.1) ?_)))));rintro _ o p b ⟨i,rfl,d⟩;replace b:=b.aS d;exact ag 5 b (wy a ((nb a+7)/8) i ((nb a+7)/8) (nR _) oM (vk a) _ _ b.g b.f.1) (fun l y b=>lP 0 0 (nc a) b (fun _ b=>ac b [(0,0,2)] (nv a) rfl))
theorem H9 (z:Int)(A:Option Addr)(c:Nat)(e:(lim (ab z)).length≤c)(j:(lim (ab z)).length≤300000000)(w:World)(h:Hp)(g:G w h)(i:S3 A (lim (ab z)) h):CV 52 #[.agg #[.bool (ai z),.slice A ((lim (ab z)).length) c]] w h (iv z):=by
 have a:=((sS g).aS i);have d:=BW (ab z);refine go Tryz.func52 [(0,.agg #[.bool (ai z),qS A ((lim (ab z)).length) c])] rfl (av (lA 1 26 ([.bool (ai z),qS A ((lim (ab z)).length) c]) a (fun b w2 o a=>lA 2 38 ([qF,uV 0,eS]) a (fun u p k a=>ah (cR 6 [] mixed a ar ?_)))));exact eV 0 3 (pB b) (eO 1 4 [(1,0,1)] (.bool (ai z)) a (eV 2 5 (qP b 1) (eO 3 6 [(1,1,1)] (qS A ((lim (ab z)).length) c) a (aq 4 7 a (fun _ _ a=>F8 (ab z) A c e (by first|exact j|exact LQ.ld hq|omega) _ _ a.g a.f.1) (fun l x a=>aq 5 8 a (fun _ _ a=>fH (ai z) (ab z) oM _ _ a.g) (fun y _ a=>ck a (fun _ _ a=>tP 6 0 0 (ic (bC (ai z) (ab z))) a (fun _ a=>tN (kX (a.ret [(0,0,3)] (iv (bC (ai z) (ab z))) (congrArg iv (xO z))))))))))))
theorem uR (q:Rat):mkR q.num ((q.den:Nat):Int)=q:=by
 unfold mkR;rw[MM oM];show mkRat q.num q.den=q;rw[L9]
theorem Jj (q:Rat)(c:Option Addr)(c1:Nat)(d:Option Addr)(b:Nat)(p:(lim (ab q.num)).length≤c1)(j:(lim q.den).length≤b)(e:LQ 100000000 q)(w:World)(h:Hp)(g:G w h)(l:S3 c (lim (ab q.num)) h)(k:S3 d (lim q.den) h)(x:Tab h):CV 23 #[rG q c c1 d b] w h (qv q):=by
 have a:=((((sS g).aS l).aS k).aB x);refine go Tryz.func23 [(0,rG q c c1 d b)] rfl (av (lA 1 28 (cW q c c1 d b) a (fun u w2 C a=>lA 2 40 da a (fun F D z a=>ah ?_))));have i:=a;exact cR 12 [⟨11,3,.cells (Lu [qF,uV 0,eS,uV 0,eS]) 40 (0,0)⟩] mixed a (bW (fA kR (fun _ _=>by kernel_rfl)) ar) (eV 0 6 (pB u) (eO 1 7 [(1,0,2)] (.agg #[.bool (ai q.num),qS c ((lim (ab q.num)).length) c1]) a (eV 3 9 (qP u 2) (eO 4 10 [(1,2,1)] (qS d ((lim q.den).length) b) a (aq 2 8 a (fun _ _ a=>H9 q.num c c1 p (LQ.ln e) _ _ a.g a.f.r.1) (fun B I a=>aq 5 11 a (fun _ _ a=>F8 q.den d b j (by first|exact hl|exact LQ.ld e|omega) _ _ a.g a.f.2.1) (fun H _ a=>aq 6 12 a (fun _ _ a=>dP q.den _ _ a.g) (fun _ _ a=>aq 7 13 a (fun _ _ a=>Hn q.num (q.den:Int) (by have:=q.den_pos;omega) (by have:=e.1;omega) (by show (wds q.den).length≤_;have:=e.2;omega) _ _ a.g a.f.1) (fun _ _ a=>eV 8 5 (.tuple #[qv (mkR q.num (q.den:Int)),qT]) (eV 9 14 (qv (mkR q.num (q.den:Int))) (eV 10 15 qT (iL [] i a 40 [qF,uV 0,eS,uV 0,eS] (fun _ _ y a=>tP 12 0 0 (qc (mkR q.num (q.den:Int))) a (fun _ a=>tV 13 4 qT (th (lL a [.o 16 (qv (mkR q.num (q.den:Int))) 0 0 5] (lP 1 0 (qc (mkR q.num (q.den:Int))) a (fun _ a=>ac a [(1,0,5)] (qv (mkR q.num (q.den:Int))) (congrArg qv (uR q))))))))))))))))))))
theorem I5 (v:Value)(q:Rat)(i:LQ 100000000 q)(w:World)(h:Hp)(g:G w h)(hv:RQ h v q)(e:Tab h):CV 23 #[v] w h (qv q):=by
 obtain ⟨A,c,B,d,rfl,h1,b,a,f⟩:=hv;exact Jj q A c B d h1 b i w h g a f e
theorem r6 (n:Nat)(p:(wds n).length≤100000000)(w:World)(h:Hp)(g:G w h):CR 126 #[nv n] w h (fun v h1=>RN h1 v n):=by
 have a:=sS g;have c:=ma n;refine go Tryz.func126 [(0,nv n)] rfl (av (lA 1 36 (nc n) a (fun k w2 l a=>lL a [.v 2 (sZ)] (aI (lL a [.o 3 (nv n) 0 0 2] (lC 4 a (vj n oM _ _ a.g) ?_))))));rintro _ i j a ⟨d,rfl,b⟩;replace a:=a.aS b;refine lC 5 a (uD n ((nb n+7)/8) d ((nb n+7)/8) (nR _) oM (vk n) _ _ a.g a.f.1) ?_;rintro _ _ _ a ⟨e,c9,rfl,za,zb⟩;replace a:=a.aS zb;exact lL a [.m 2 5] (ac a [] (qS e ((lim n).length) c9) (⟨_,_,rfl,za,a.f.1⟩))
theorem CK (z:Int):bC (decide (z.sign<(0:Int))) (ab z)=z:=by
 rcases LB z 0 with h|h|h
 ·rw[LC h];unfold bC ab;simp;omega
 ·subst h;rfl
 ·rw[LD h];unfold bC ab;simp;omega
theorem Af (z:Int)(x:(wds (ab z)).length≤100000000)(w:World)(h:Hp)(g:G w h):CR 124 #[iv z] w h (fun v h1=>RI h1 v z):=by
 have a:=sS g;refine go Tryz.func124 [(0,iv z)] rfl (av (lA 1 38 (ic z) a (fun o w2 p a=>lA 2 26 ([qF,sZ]) a (fun y u k a=>ah (cR 7 [] mixed a ar ?_)))));refine eO 0 3 [(1,0,3)] (iv z) a (eO 3 6 [(1,0,3)] (iv z) a (aq 1 4 a (fun _ _ a=>kT z oM _ _ a.g) (fun l C a=>eV 2 5 (.bool (decide ((z.sign:Int)<(0:Int)))) (aq 4 7 a (fun _ _ a=>tm z _ _ a.g) (fun B _ a=>eC 5 8 a (fun _ _ a=>r6 (ab z) (by first|exact hq.2|omega) _ _ a.g) ?_)))));rintro _ _ _ _ _ a ⟨d,i,rfl,b,e⟩;replace a:=a.aS e;refine eC 6 9 a (fun _ _ a=>rI (decide ((z.sign:Int)<(0:Int))) (ab z) d i b _ _ a.g a.f.1) ?_;rintro _ _ _ _ _ a ⟨za,zb,rfl,j,c⟩;replace a:=a.aS c;exact ck a (fun _ _ a=>tP 7 0 0 ([.bool (ai (bC (decide ((z.sign:Int)<(0:Int))) (ab z))),qS za ((lim (ab (bC (decide ((z.sign:Int)<(0:Int))) (ab z)))).length) zb]) a (fun _ a=>tN (kX (a.ret [(0,0,2)] (.agg #[.bool (ai (bC (decide ((z.sign:Int)<(0:Int))) (ab z))),qS za ((lim (ab (bC (decide ((z.sign:Int)<(0:Int))) (ab z)))).length) zb]) (by rw[CK] at *;exact ⟨_,_,rfl,j,a.f.1⟩)))))
theorem IM (q:Rat)(c:LQ 100000000 q)(w:World)(h:Hp)(g:G w h):CR 69 #[qv q] w h (fun v h1=>RQ h1 v q):=by
 have a:=sS g;refine go Tryz.func69 [(0,qv q)] rfl (av (lA 1 40 (qc q) a (fun p w2 u a=>lA 2 28 ec a (fun y x l a=>ah (cR 7 [] mixed a ar ?_)))));refine eO 0 3 [(1,0,5)] (qv q) a (eO 3 6 [(1,0,5)] (qv q) a (aq 1 4 a (fun _ _ a=>Ib q _ _ a.g) (fun o z a=>eC 2 5 a (fun _ _ a=>Af q.num c.1 _ _ a.g) ?_)));rintro _ _ _ _ _ a ⟨d,za,rfl,j,k⟩;replace a:=a.aS k;refine aq 4 7 a (fun _ _ a=>eT q c _ _ a.g) (fun _ _ a=>eC 5 8 a (fun _ _ a=>r6 q.den (by first|exact c.2|omega) _ _ a.g) ?_);rintro _ _ _ _ _ a ⟨zb,b,rfl,e,i⟩;replace a:=a.aS i;exact eV 6 9 (rG q d za zb b) (ck a (fun _ _ a=>tP 7 0 0 (cW q d za zb b) a (fun _ a=>tN (kX (a.ret [(0,0,3)] (rG q d za zb b) (⟨_,_,_,_,rfl,j,e,a.f.2.1,a.f.1⟩))))))
theorem LQ.mkR {n d:Int}(j:d≠0)(h0 : -9223372036854775808≤n)(h1:n≤9223372036854775807)(f : -9223372036854775808≤d)(h:d≤9223372036854775807):LQ 1 (mkR n d):=by
 unfold Go.Proofs.YtnflfcbfifhpaaaGreatDoor.mkR
 have b:0<ab d:=by unfold ab;omega
 obtain ⟨c,e,a,i⟩:=hJ (if d<0 then -n else n) (ab d) b;refine ⟨?_,?_⟩
 ·rw[c];refine fU.2 (JS (cf _ _ a) ?_)
  unfold ab;split<;>omega
 ·rw[e];exact fU.2 (JS (JT _ _) (by unfold ab;omega))
def aY (n:Int)(m:Nat):Nat:=(n%(m:Int)).toNat
theorem cH (n:Int)(m:Nat)(h:0<m):aY n m<m:=by
 unfold aY
 have h1:=Mb n (show (m:Int)≠0 by omega);have a:=Mc n (show (0:Int)<m by omega)
 omega
theorem pE (n:Int)(m:Nat)(h:0<m):((aY n m:Nat):Int)=n%(m:Int):=by
 unfold aY
 have h1:=Mb n (show (m:Int)≠0 by omega)
 omega
theorem oP (n:Int)(m:Nat)(d:0<m)(b:n<0):(n%(m:Int)=0∧n.tmod (m:Int)=0)∨(0<n%(m:Int)∧n.tmod (m:Int)=n%(m:Int)-m):=by
 have a:=Mb n (show (m:Int)≠0 by omega);rw[Int.tmod_eq_emod]
 by_cases h:(m:Int)∣n
 ·left
  rw[MN (.inr h)];have:=Int.emod_eq_zero_of_dvd h;exact ⟨this,by omega⟩
 ·right
  have c:¬(n%(m:Int)=0):=fun h'=>h (Int.dvd_of_emod_eq_zero h')
  rw[MM (by intro h';rcases h' with h'|h';omega;exact h h')];refine ⟨by omega,by simp⟩
def nW (k:Nat):Nat:=match k with|0=>1|1=>1|2=>1|3=>2|4=>3|_=>4
theorem oU (k:Nat):0<nW k:=by unfold nW;split<;>omega
theorem re (k:Nat):nW k≤4:=by unfold nW;split<;>omega
def dm (n:Int):Rat:=mkR ((aY n 41:Int)-20) (nW (aY (n.tdiv 41) 6):Nat)
def Ef (n:Int):Rat:=mkR ((aY n 9:Int)-4) (((aY (n.tdiv 9) 2:Nat):Int)+1)
theorem rX (n:Int)(m:Int)(c:1<m)(a : -9223372036854775808≤n)(b:n≤9223372036854775807) : -9223372036854775808≤n.tdiv m∧n.tdiv m≤9223372036854775807:=by
 have h1:(n.tdiv m).natAbs≤n.natAbs/2:=by
  rw[Int.natAbs_tdiv];exact Nat.div_le_div_left oM oM
 omega
theorem vT {n:Int}{m:Nat}(a:0<m)(h:n.tmod (m:Int)<0):n.tmod (m:Int)+m=((aY n m:Nat):Int):=by
 rw[pE n m a]
 rcases Md n 0 with hn|hn
 ·rcases oP n m a hn with ⟨h1,h2⟩|⟨h1,h2⟩<;>omega
 ·rw[Me hn] at h
  have:=Mb n (show (m:Int)≠0 by omega)
  omega
theorem tc {n:Int}{m:Nat}(a:0<m)(h:¬n.tmod (m:Int)<0):n.tmod (m:Int)=((aY n m:Nat):Int):=by
 rw[pE n m a]
 rcases Md n 0 with hn|hn
 ·rcases oP n m a hn with ⟨h1,h2⟩|⟨h1,h2⟩
  ·omega
  ·have:=Mc n (show (0:Int)<m by omega)
   omega
 ·rw[Me hn]
theorem C2 (n:Int){m:Nat}(b:0<m) : -(m:Int)<n.tmod (m:Int)∧n.tmod (m:Int)<m:=by
 have h1:=Int.tmod_lt_of_pos n (show (0:Int)<m by omega);have a:=Int.lt_tmod_of_pos n (show (0:Int)<m by omega);exact ⟨a,h1⟩
theorem en (n:Int)(m:Nat)(f:0<m)(i:m<1000000)(w:World)(h:Hp)(g:G w h):CV 15 #[iV n,nV m] w h (nV (aY n m)):=by
 have c:=sS g;obtain ⟨j,l⟩:=C2 n f;refine go Tryz.func15 [(0,iV n),(1,nV m)] rfl (aa c [.v 4 (iV 0)] (aI (lL c [.m 5 0,.m 6 1] (lV 7 (iV (n.tmod (m:Nat))) ?_ (hr:=dU (t:=3) (u:=3) (x:=.tmp 5) (y:=.tmp 6) (k:=.i64) (a:=n) (b:=(m:Nat)) kR kR kR oM _)))));refine lL c [.m 0 7] (ah (aa c [.m 8 0] ?_));cases d:(decide ((n.tmod (m:Nat):Int)<(0:Int)))
 ·
  have e:=oF d;exact lB 9 d (af (cK (aa c [.m 13 0,.m 4 13] (ac c [] (iV (n.tmod (m:Nat))) (congrArg (Lp .i64) (tc f aM))))))
 have e:=oT d;refine lB 9 d (ak (kQ (lL c [.m 10 0,.m 11 1] (lI 12 ((n.tmod (m:Nat))+(m:Nat)) ?_))));exact lL c [.m 0 12] (aI (lL c [.m 13 0,.m 4 13] (ac c [] (iV ((n.tmod (m:Nat))+(m:Nat))) (congrArg (Lp .i64) (vT f aM)))))
theorem xI (w:World):(Instr.index 142 (.agg #[.int .i64 1,.int .i64 1,.int .i64 1,.int .i64 2,.int .i64 3,.int .i64 4]) (.int .i64 0)).run Tryz.prog w=.ok (.int .i64 1) w:=by kernel_rfl
theorem v6 (w:World):(Instr.index 142 (.agg #[.int .i64 1,.int .i64 1,.int .i64 1,.int .i64 2,.int .i64 3,.int .i64 4]) (.int .i64 1)).run Tryz.prog w=.ok (.int .i64 1) w:=by kernel_rfl
theorem uZ (w:World):(Instr.index 142 (.agg #[.int .i64 1,.int .i64 1,.int .i64 1,.int .i64 2,.int .i64 3,.int .i64 4]) (.int .i64 2)).run Tryz.prog w=.ok (.int .i64 1) w:=by kernel_rfl
theorem vV (w:World):(Instr.index 142 (.agg #[.int .i64 1,.int .i64 1,.int .i64 1,.int .i64 2,.int .i64 3,.int .i64 4]) (.int .i64 3)).run Tryz.prog w=.ok (.int .i64 2) w:=by kernel_rfl
theorem v7 (w:World):(Instr.index 142 (.agg #[.int .i64 1,.int .i64 1,.int .i64 1,.int .i64 2,.int .i64 3,.int .i64 4]) (.int .i64 4)).run Tryz.prog w=.ok (.int .i64 3) w:=by kernel_rfl
theorem wn (w:World):(Instr.index 142 (.agg #[.int .i64 1,.int .i64 1,.int .i64 1,.int .i64 2,.int .i64 3,.int .i64 4]) (.int .i64 5)).run Tryz.prog w=.ok (.int .i64 4) w:=by kernel_rfl
theorem Ea (k:Nat)(h:k<6)(w:World):(Instr.index 142 (.agg #[.int .i64 1,.int .i64 1,.int .i64 1,.int .i64 2,.int .i64 3,.int .i64 4]) (.int .i64 (k:Int))).run Tryz.prog w=.ok (.int .i64 ((nW k:Nat):Int)) w:=by
 have:k=0∨k=1∨k=2∨k=3∨k=4∨k=5:=by omega
 rcases this with rfl|rfl|rfl|rfl|rfl|rfl
 ·exact xI w
 ·exact v6 w
 ·exact uZ w
 ·exact vV w
 ·exact v7 w
 ·exact wn w
theorem IQ {Γ:bz}{o:Oper}{x y:Operand}(k:Nat)(h:k<6)(a:o.op=.index 142 x y)(b:ev Γ x=.agg #[.int .i64 1,.int .i64 1,.int .i64 1,.int .i64 2,.int .i64 3,.int .i64 4])(c:ev Γ y=.int .i64 (k:Nat))(w:World) :
  (execOp (ev Γ) o).run Tryz.prog w=.ok (.value (.int .i64 (nW k:Nat))) w:=by
 unfold execOp;simp only[a];rw[b,c,Sem.run_bind,Ea k h w];rfl
theorem hR (n:Int)(h0 : -9223372036854775808≤n)(h1:n≤9223372036854775807)(w:World)(h:Hp)(g:G w h):CR 44 #[iV n] w h (fun v h1=>RQ h1 v (dm n)):=by
 have a:=sS g;obtain ⟨z,B⟩:=rX n 41 oM h0 h1;have C:=cH n 41 oM;have l2:=cH (n.tdiv 41) 6 oM;have u:=oU (aY (n.tdiv 41) 6);have I:=re (aY (n.tdiv 41) 6);refine go Tryz.func44 [(0,iV n)] rfl (av (lA 2 28 ec a (fun D w2 F a=>aI (lL a [.m 3 0] (ag 4 a (en (n) 41 oM oM _ _ a.g) (fun H p a=>?_))))));have j:=cH (n) 41 oM;refine lI 5 ((aY (n) 41:Nat)-20) (lL a [.v 6 (.agg #[iV 1,iV 1,iV 1,iV 2,iV 3,iV 4]),.m 7 0] (lV 8 (iV (n.tdiv 41)) ?_ (hr:=rS ((n.tdiv 41)) kR (iY oM oM))));refine ag 9 a (en (n.tdiv 41) 6 oM oM _ _ a.g) (fun o J a=>?_);have k:=cH (n.tdiv 41) 6 oM;refine lV 10 (nV (nW (aY (n.tdiv 41) 6))) ?_ (hr:=IQ (x:=.tmp 6) (y:=.tmp 9) (aY (n.tdiv 41) 6) l2 kR kR kR _);refine lC 11 a (Fa ((aY (n) 41:Nat)-20) (nW (aY (n.tdiv 41) 6):Nat) oM oM oM oM oM _ _ a.g) ?_;rintro _ _ _ a ⟨za,zb,b,c,rfl,l,d,e,i⟩;replace a:=a.aP e i;exact lP 0 0 (cW (dm n) za zb b c) a (fun _ a=>ac a [(0,0,3)] (rG (dm n) za zb b c) (⟨_,_,_,_,rfl,l,d,a.f.2.1,a.f.1⟩))
theorem LQ.hand (n:Int):LQ 1 (dm n):=by
 unfold dm
 have b:=cH n 41 oM;have a:=oU (aY (n.tdiv 41) 6);have c:=re (aY (n.tdiv 41) 6);exact LQ.mkR oM oM oM oM oM
abbrev RT:=Bool × Value × Value
def j6 (t:RT):List Value:=[.bool t.1,t.2.1,t.2.2]
def sv:RT:=(false,undef,undef)
abbrev rA (t:RT):Value:=.agg #[.bool t.1,t.2.1,t.2.2]
abbrev Sr (A:Option Addr)(l:List RT):Hp→Prop:=fun h_=>SlO 3 j6 sv h_ A l
def GA (t:RT):Value:=.agg #[.bool t.1,t.2.1,t.2.2]
structure RTs (h:Hp) (ts:List RT) (qs:List Rat):Prop where
  len:ts.length=qs.length
  at_:∀ i,i<qs.length→RQ h (GA (ts.getD i sv)) (qs.getD i 0)
abbrev Rt (t:List RT)(l:List Rat):Hp→Prop:=fun h_=>RTs h_ t l
theorem RTs.gw {h h':Hp}{b:List RT}{a:List Rat}(r:RTs h b a)(u:Gw h h'):RTs h' b a:=⟨r.len,fun i hi=>(r.at_ i hi).gw u⟩
theorem SS.aT {t:List RT}{l:List Rat}{w0 w:World}{h0 h:Hp}{B:List Bx}{R:List Rw}{F:List (Hp→Prop)}(s:SS w0 h0 w h B R F)(p:RTs h t l):SS w0 h0 w h B R (Rt t l::F):=s.add (K:=Rt t l) p
theorem RTs.nil {h:Hp}:RTs h [] []:=⟨rfl,fun i hi=>by simp at hi⟩
theorem cO {α:Type}(l:List α)(x d:α)(i:Nat):(l++[x]).getD i d=if i<l.length then l.getD i d else if i=l.length then x else d:=by
 split
 ·rename_i h;simp[List.getElem?_append_left h]
 ·rename_i h
  split
  ·rename_i a;subst a;simp
  ·rename_i a;simp[List.getElem?_eq_none (show (l++[x]).length≤i by simp;omega)]
theorem RTs.snoc {h:Hp}{b:List RT}{a:List Rat}(r:RTs h b a){t:RT}{q:Rat}(c:RQ h (GA t) q):RTs h (b++[t]) (a++[q]):=by
 refine ⟨by simp[r.len],fun i hi=>?_⟩;rw[cO,cO,r.len]
 split
 ·rename_i h1;exact r.at_ i h1
 ·rename_i h1
  have:i=a.length:=by simp at hi;omega
  rw[MN this,MN this];exact c
theorem iM {α:Type}{l:List α}{k:Nat}(d:α)(h:k<l.length):l.take (k+1)=l.take k++[l.getD k d]:=by
 rw[List.take_add_one];simp[h]
def vc (v:Value):List Value:=[v]
abbrev Sv (A:Option Addr)(l:List Value):Hp→Prop:=fun h_=>SlO 1 vc undef h_ A l
def cg (zs:List Int):Nat→List Rat
  | 0=>[]
  | k+1=>cg zs k++[if k<zs.length then dm (zs.getD k 0) else 0]
theorem lE (a:List Int)(k:Nat):(cg a k).length=k:=by induction k with|zero=>rfl|succ k ih=>simp[cg,ih]
def kM (zs:List Int):Prop:=∀ k,-9223372036854775808≤zs.getD k 0∧zs.getD k 0≤9223372036854775807
structure RVs (h:Hp) (vs:List Value) (qss:List (List Rat)):Prop where
  len:vs.length=qss.length
  at_:∀ i,i<qss.length→∃ A cap,∃ ts:List RT,vs.getD i undef=.slice A ts.length cap∧ts.length≤cap∧SlO 3 j6 sv h A ts∧RTs h ts (qss.getD i [])
abbrev Ru (t:List Value)(l:List (List Rat)):Hp→Prop:=fun h_=>RVs h_ t l
structure QVs (h:Hp) (vs:List Value) (qss:List (List Rat)):Prop where
  len:vs.length=qss.length
  at_:∀ i,i<qss.length→Ij 5 qc 0 h (vs.getD i undef) (qss.getD i [])
abbrev Qu (t:List Value)(l:List (List Rat)):Hp→Prop:=fun h_=>QVs h_ t l
theorem mN {b:List Int}{k:Nat}{q:Rat}(d:(if k<b.length then dm (b.getD k 0) else 0)=q){a:List RT}{h':Hp}(c:RTs h' a (cg b k++[q])):RTs h' a (cg b (k+1)):=by
 show RTs h' a (cg b k++[_]);rw[d];exact c
theorem ny (a:List Int):∀ n i,LQ 1 ((cg a n).getD i 0)
  | 0,i=>LQ.lit (z:=0) kD
  | n + 1,i=>by
    show LQ 1 ((cg a n++[_]).getD i 0)
    rw[cO]
    split
    · exact ny a n i
    · split
      · split
        · exact LQ.hand _
        · exact LQ.lit (z:=0) kD
      · exact LQ.lit (z:=0) kD
theorem GR {h:Hp}{A D:Option Addr}{c d:Nat}{q:Rat}(h1:(lim (ab q.num)).length≤c)(a:(lim q.den).length≤d)(b:SlO 1 aZ 0 h A (lim (ab q.num)))(e:SlO 1 aZ 0 h D (lim q.den)):RQ h (GA ((ai q.num,.slice A (lim (ab q.num)).length c,.slice D (lim q.den).length d):RT)) q:=⟨_,_,_,_,rfl,h1,a,b,e⟩
theorem IU (A:Option Addr)(e:Nat)(b:List Int)(n:Nat)(hn:n≤1000000)(hl:b.length≤9223372036854775807)(hz:kM b)(w:World)(h:Hp)(g:G w h)(hA:Si A b h):CR 29 #[.slice A b.length e,nV n] w h (fun v h1=>∃ A c,∃ d:List RT,v=.slice A d.length c∧d.length≤c∧Sr A d h1∧RTs h1 d (cg b n)):=by
 have a:=((sS g).aS hA);refine go Tryz.func29 [(0,qS A b.length e),(1,nV n)] rfl (aa a [.v 4 (sZ)] (aI (lL a [.v 5 (sZ)] (ah (aa a [.v 6 (iV 0)] (a8 ?_))))));replace a:=a.nil 28 3;refine bH [(0,qS A b.length e),(1,nV n),(4,sZ),(6,iV 0),(5,sZ)] ?_;replace a:=a.aT (RTs.nil);refine CG.loop (fun B Γ w_=>∃ (k:Nat) (o:Option Addr) (p:Nat) (d:List RT) (h_:Hp),B=n-k∧Γ=[(0,qS A b.length e),(1,nV n),(4,sZ),(6,nV k),(5,qS o ((d).length) p)]∧SS w h w_ h_ [] [⟨28,3,o,p,(d).length,(d).flatMap j6⟩] [Rt d (cg b k),Si A b]∧k≤n) _ ⟨0,none,0,[],h,rfl,rfl,a.to _ _,K7 _⟩ ?_;rintro _ _ w1 ⟨k,o,p,d,h2,hm3,rfl,a,hk⟩;have J:=(a.f.1).len;rw[lE] at J
 refine cQ (aa a [.m 7 6,.m 8 1] ?_);cases i:(decide ((k:Int)<(n:Int)))
 ·
  have u:=oF i;refine lB 9 i (af (CG.exit ?_))
  show CG _ _ _ _ _ _ _ _
  refine aa a [.m 28 5,.m 4 28] (lN (kX ?_));have L:k=n:=by omega
  subst L;obtain ⟨h5,a,C⟩:=a.pubr 0 (A:=o) (c:=p) (l:=d) (f:=j6) (ty:=28) (sz:=3) sv (fun _=>rfl);exact a.ret [] (qS o ((d).length) p) (⟨_,_,d,rfl,C,a.f.1,a.f.2.1⟩)
 have u:=oT i;refine lB 9 i (ak (cK (cQ (kZ (aa a [.m 12 6,.m 13 0,.v 14 (nV b.length)] ?_)))));cases j:(decide ((k:Int)<(b.length:Int)))
 ·
  have x:=oF j;refine lB 15 j (af (kQ (lL a [.m 24 5] (lC 25 a (mr 0 oM oM _ _ a.g) ?_))));rintro _ _ _ a ⟨z,za,zb,y,rfl,zi,zj,Z,X⟩;replace a:=a.aP Z X;refine lR 26 28 1 (cW ((0:Int):Rat) z za zb y) a (fun zq _ _ a=>lY 27 0 28 3 p o d j6 ((ai ((0:Int):Rat).num,qS z ((lim (ab ((0:Int):Rat).num)).length) za,qS zb ((lim ((0:Int):Rat).den).length) y):RT) 56 zq (.agg #[qF,sZ,sZ]) a a.f.1 (fun zr zt _ Q a=>lL a [.m 5 27] (lN (kQ (lL a [.m 10 6] (bD 11 ((k:Nat)+1) (k+1) ?_))))));refine lL a [.m 6 11] (lD ?_);intro O H;replace a:=(a.tl.tl.tl.tl.add (K:=Rt (d++[((ai ((0:Int):Rat).num,qS z ((lim (ab ((0:Int):Rat).num)).length) za,qS zb ((lim ((0:Int):Rat).den).length) y):RT)]) (cg b (k+1))) (mN ((MM oM).trans (show (0:Rat)=((0:Int):Rat) from rfl)) (RTs.snoc a.f.r.2.1 (GR zi zj a.f.r.1 a.f.2.1))));refine ⟨_,_,?_,⟨k+1,zr,zt,d++[((ai ((0:Int):Rat).num,qS z ((lim (ab ((0:Int):Rat).num)).length) za,qS zb ((lim ((0:Int):Rat).den).length) y):RT)],Q,rfl,rfl,a.to _ _,oM⟩,H.to _ kR⟩
  omega
 have x:=oT j;refine lB 15 j (ak (kQ (lL a [.m 16 5,.m 17 0,.m 18 6] (lX 19 A b.length e 1 (k:Nat) k ((a.f.2.1).ok oM) ?_))));refine lH 20 (iV (b.getD k 0)) a ((a.f.2.1).el k oM) (lC 21 a (hR (b.getD k 0) (hz k).1 (hz k).2 _ _ a.g) ?_);rintro _ _ _ a ⟨I,M,D,F,rfl,Y,V,U,S⟩;replace a:=a.aP U S;refine lR 22 28 1 (cW (dm (b.getD k 0)) I M D F) a (fun zv _ _ a=>lY 23 0 28 3 p o d j6 ((ai (dm (b.getD k 0)).num,qS I ((lim (ab (dm (b.getD k 0)).num)).length) M,qS D ((lim (dm (b.getD k 0)).den).length) F):RT) 56 zv (.agg #[qF,sZ,sZ]) a a.f.1 (fun zw W _ zA a=>lL a [.m 5 23] (lN (kQ (lL a [.m 10 6] (bD 11 ((k:Nat)+1) (k+1) ?_))))));refine lL a [.m 6 11] (lD ?_);intro O H;replace a:=(a.tl.tl.tl.tl.aT (mN (MN oM) (RTs.snoc a.f.r.2.1 (GR Y V a.f.r.1 a.f.2.1))));refine ⟨_,_,?_,⟨k+1,zw,W,d++[((ai (dm (b.getD k 0)).num,qS I ((lim (ab (dm (b.getD k 0)).num)).length) M,qS D ((lim (dm (b.getD k 0)).den).length) F):RT)],zA,rfl,rfl,a.to _ _,oM⟩,H.to _ kR⟩
 omega
def maxR (a b:Rat):Rat:=if a<b then b else a
theorem LQ.maxR {k:Nat}{a b:Rat}(ha:LQ k a)(c:LQ k b):LQ k (maxR a b):=by unfold Go.Proofs.YtnflfcbfifhpaaaGreatDoor.maxR;split;exact c;exact ha
theorem HW (a:Rat)(ha:LQ 100000000 a)(w:World)(h:Hp)(g:G w h):CV 116 #[qv a] w h (qv (dw a)):=by
 have b:=sS g;refine go Tryz.func116 [(0,qv a)] rfl (av (lA 1 40 (qc a) b (fun c w2 i b=>lA 2 40 da b (fun d j e b=>ah (cR 7 [] mixed b ar ?_)))));exact eV 0 3 (pB c) (eO 1 4 [(1,0,3)] (iv a.num) b (eV 4 7 (qP c 3) (eO 5 8 [(1,3,2)] (nv (qd a)) b (aq 2 5 b (fun _ _ b=>tm a.num _ _ b.g) (fun f l b=>aq 3 6 b (fun _ _ b=>dP (ab a.num) _ _ b.g) (fun k _ b=>eV 6 9 (.agg #[.bool (ai (((ab a.num):Nat):Int)),uV (lo (ab (((ab a.num):Nat):Int))),.string (hi (ab (((ab a.num):Nat):Int))),uV (lo (qd a)),.string (hi (qd a))]) (ck b (fun _ _ b=>tP 7 0 0 ([.bool (ai (((ab a.num):Nat):Int)),uV (lo (ab (((ab a.num):Nat):Int))),.string (hi (ab (((ab a.num):Nat):Int))),uV (lo (qd a)),.string (hi (qd a))]) b (fun _ b=>tN (kX (b.ret [(0,0,5)] (.agg #[.bool (ai (((ab a.num):Nat):Int)),uV (lo (ab (((ab a.num):Nat):Int))),.string (hi (ab (((ab a.num):Nat):Int))),uV (lo (qd a)),.string (hi (qd a))]) (hC (jb a) (by unfold qd;rw[kS])))))))))))))
structure Lay where
  k:Int
  W:List (List Rat)
  B:List Rat
def iD:Lay:=⟨0,[],[]⟩
abbrev LV:=Int × Value × Value
def FZ:LV:=(0,undef,undef)
structure NetL (h:Hp) (ts:List LV) (ls:List Lay):Prop where
  len:ts.length=ls.length
  at_:∀ i,i<ls.length→(ts.getD i FZ).1=(ls.getD i iD).k∧(∃ A c,∃ us:List Value,(ts.getD i FZ).2.1=.slice A us.length c∧us.length≤c∧SlO 1 vc undef h A us∧QVs h us (ls.getD i iD).W)∧Ij 5 qc 0 h (ts.getD i FZ).2.2 (ls.getD i iD).B
abbrev Nn (t:List LV)(l:List Lay):Hp→Prop:=fun h_=>NetL h_ t l
structure RNetL (h:Hp) (ts:List LV) (ls:List Lay):Prop where
  len:ts.length=ls.length
  at_:∀ i,i<ls.length→(ts.getD i FZ).1=(ls.getD i iD).k∧(∃ A c,∃ us:List Value,(ts.getD i FZ).2.1=.slice A us.length c∧us.length≤c∧SlO 1 vc undef h A us∧RVs h us (ls.getD i iD).W) ∧
    (∃ A c,∃ rs:List RT,(ts.getD i FZ).2.2=.slice A rs.length c∧rs.length≤c∧SlO 3 j6 sv h A rs∧RTs h rs (ls.getD i iD).B)
abbrev Rn (t:List LV)(l:List Lay):Hp→Prop:=fun h_=>RNetL h_ t l
def ve (l:List Rat):Prop:=∀ q∈l,∃ z,q=Ef z
structure LayMk (L:Lay) (kq:Nat) (r c:Nat):Prop where
  k:L.k=(kq:Int)
  rows:L.W.length=r
  row:∀ q∈L.W,q.length=c∧ve q
  bl:L.B.length=r
  bs:ve L.B
theorem wN (A:Option Addr)(e:Nat)(d:List Int)(K:d.length≤9223372036854775807)(hz:kM d)(a at_:Nat)(ha:at_≤d.length)(w:World)(h:Hp)(g:G w h)(y:Own w a 68 [.slice A d.length e,nV at_])(u:h[a]?=some junk)(B:Si A d h):Calls Tryz.prog 43 #[pB a] w (ef a w h fun v w' _=>∃ (z:Int) (at2:Nat),v=iV z∧at2≤d.length∧(-9223372036854775808≤z∧z≤9223372036854775807)∧Own w' a 68 [.slice A d.length e,nV at2]):=by
 have c:UpM [a] w h w h:=UpM.refl g;obtain ⟨wz,l,b⟩:=SS.at_ g y u;replace b:=b.aS B;refine go Tryz.func43 [(0,pB a)] rfl (aa b [.v 2 (iV 0)] (ah (cQ (cR 10 [] mixed b ar ?_))));refine eV 0 3 (pB a) (eV 1 4 (pB a) (eV 2 5 (qP a 1) (eO 3 6 [(0,1,1)] (nV at_) b (eV 4 7 (pB a) (eV 5 8 (pB a) (eV 6 9 (pB a) (eO 7 10 [(0,0,1)] (qS A d.length e) b (eV 8 11 (nV d.length) ?_))))))));cases i:(decide ((d.length:Int)≤(at_:Int)))
 ·
  have j:=oF i;refine eB 9 12 i (iU b (fun w2 H p b=>?_));replace c:=c.trans (p.m _);refine tN (cv (cK (aa b [.m 13 0,.v 14 (pB a),.v 15 (qP a 1),.o 16 (nV at_) 0 1 1] (bD 17 ((at_:Nat)+1) (at_+1) ?_))));refine lL b [.v 18 (pB a),.v 19 (qP a 1)] (jv 0 1 ([nV (at_+1)]) b (fun I x b=>?_));replace c:=c.put x (pa.2 rfl) b.g;refine ah (cR 11 [] mixed b ar ?_);refine eV 0 20 (pB a) (eV 1 21 (pB a) (eV 2 22 (pB a) (eO 3 23 [(0,0,1)] (qS A d.length e) b (eV 4 24 (pB a) (eV 5 25 (pB a) (eV 6 26 (qP a 1) (eO 7 27 [(0,1,1)] (nV (at_+1)) b (jy 8 28 ((at_+1:Nat)-1) ((at_+1)-1) (eX 9 29 A d.length e 1 ((at_+1)-1:Nat) ((at_+1)-1) ((b.f.1).ok oM) (eH 10 30 (iV (d.getD ((at_+1)-1) 0)) b ((b.f.1).el ((at_+1)-1) oM) (iU b (fun D F C b=>?_))))))))))));replace c:=c.trans (C.m _);exact tV 11 2 (iV (d.getD ((at_+1)-1) 0)) (tN (kX (b.retM c [] (iV (d.getD ((at_+1)-1) 0)) ⟨d.getD ((at_+1)-1) 0,(at_+1),rfl,by omega,hz _,b.own 0⟩)))
 have j:=oT i;refine eB 9 12 i (iU b (fun J _ k b=>?_));replace c:=c.trans (k.m _);exact tN (ce (aa b [.v 2 (iV 0)] (lN (kX (b.retM c [] (iV 0) ⟨0,at_,rfl,by omega,⟨by decide,by decide⟩,b.own 0⟩)))))
structure LayFit (L:Lay):Prop where
  rl:L.W.length≤1000000
  rls:∀ i,i<L.W.length→(L.W.getD i []).length≤1000000
  rf:∀ i,i<L.W.length→∀ j,j<(L.W.getD i []).length→LQ 100000000 ((L.W.getD i []).getD j 0)
  bl:L.B.length≤1000000
  bf:∀ i,i<L.B.length→LQ 100000000 (L.B.getD i 0)
structure Stp where
  op:Int
  a:Int
  b:Int
  n:Int
  q:Rat
abbrev sX (p:Stp):Value:=.agg #[iV p.op,iV p.a,iV p.b,iV p.n,.bool (ai p.q.num),uV (lo (ab p.q.num)),.string (hi (ab p.q.num)),uV (lo (qd p.q)),.string (hi (qd p.q))]
abbrev sC (p:Stp):List Value:=[iV p.op,iV p.a,iV p.b,iV p.n,.bool (ai p.q.num),uV (lo (ab p.q.num)),.string (hi (ab p.q.num)),uV (lo (qd p.q)),.string (hi (qd p.q))]
abbrev sW (o a b n:Int)(q:Rat):Value:=.agg #[iV o,iV a,iV b,iV n,.bool (ai q.num),uV (lo (ab q.num)),.string (hi (ab q.num)),uV (lo (qd q)),.string (hi (qd q))]
abbrev sG (o a b n:Int)(q:Rat):List Value:=[iV o,iV a,iV b,iV n,.bool (ai q.num),uV (lo (ab q.num)),.string (hi (ab q.num)),uV (lo (qd q)),.string (hi (qd q))]
def ew:Stp:=⟨0,0,0,0,0⟩
abbrev gP (l:List Stp)(k:Nat):Stp:=l.getD k ew
def d8 (op:Int):Int :=
  if op=1∨op=2 then 0 else if op=7∨op=8∨op=9∨op=10∨op=11 then 1
  else if op=3∨op=4∨op=5∨op=6∨op=12∨op=13 then 2 else -1
theorem aE (op:Int):(d8 op=0∧(op=1∨op=2))∨(d8 op=1∧(op=7∨op=8∨op=9∨op=10∨op=11))∨(d8 op=2∧(op=3∨op=4∨op=5∨op=6∨op=12∨op=13))∨(d8 op = -1∧(op<1∨13<op)):=by
 unfold d8;split
 ·exact .inl ⟨rfl,by assumption⟩
 ·split
  ·exact .inr (.inl ⟨rfl,by assumption⟩)
  ·split
   ·exact .inr (.inr (.inl ⟨rfl,by assumption⟩))
   ·exact .inr (.inr (.inr ⟨rfl,by omega⟩))
def n9 (i:Nat)(tt:Int)(used:Prop):Prop:=(used→0≤tt∧tt<i)∧(¬used→tt=0)
def iP (inp:Int)(i:Nat)(s:Stp):Prop :=
  0≤d8 s.op∧n9 i s.a (0<d8 s.op)∧n9 i s.b (1<d8 s.op)∧(s.op≠1→s.q.num=0) ∧
  (s.op=2→0≤s.n∧s.n<inp)∧(s.op=8 → -12≤s.n∧s.n≤12)∧(s.op≠2→s.op≠8→s.n=0)
instance (i:Nat) (tt:Int) (u:Prop) [Decidable u]:Decidable (n9 i tt u):=by unfold n9;infer_instance
instance (inp:Int) (i:Nat) (s:Stp):Decidable (iP inp i s):=by unfold iP;infer_instance
def vC (n:Nat)(os:List Int):Prop:=∀ i,i<os.length→0≤os.getD i 0∧os.getD i 0<n
instance (n:Nat) (os:List Int):Decidable (vC n os):=by unfold vC;infer_instance
structure RSt where
  op:Int
  a:Int
  b:Int
  n:Int
  t:RT
def IH:RSt:=⟨0,0,0,0,sv⟩
structure OSt where
  op:Int
  a:Int
  b:Int
  n:Int
  q:Rat
  has:Bool
def CB:OSt:=⟨0,0,0,0,0,false⟩
def nM (o:OSt):Nat:=if o.has then o.q.den else 0
def OSt.stp (o:OSt):Stp:=⟨o.op,o.a,o.b,o.n,o.q⟩
abbrev gO (s:List OSt)(k:Nat):OSt:=s.getD k CB
abbrev mO (s:List OSt):List Stp:=s.map OSt.stp
theorem Bd {o:OSt}:0<(lim (nM o)).length↔o.has=true:=by
 rw[bV];unfold nM;have:=o.q.den_pos;cases o.has<;>simp;omega
theorem x7 {o:OSt}(h:o.has=true):nM o=o.q.den:=by unfold nM;rw[h];rfl
structure RS1 (h:Hp) (t:RSt) (o:OSt):Prop where
  op:t.op=o.op
  a:t.a=o.a
  b:t.b=o.b
  n:t.n=o.n
  q:RP h (GA t.t) o.q.num (nM o)
  z:o.has=false→o.q=0
structure RSs (h:Hp) (ts:List RSt) (os:List OSt):Prop where
  len:ts.length=os.length
  at_:∀ i,i<os.length→RS1 h (ts.getD i IH) (os.getD i CB)
structure OSm (o:OSt):Prop where
  op : -1000≤o.op∧o.op≤1000
  a : -1000≤o.a∧o.a≤1000
  b : -1000≤o.b∧o.b≤1000
  n : -1000≤o.n∧o.n≤1000
  q:LQ 1 o.q
def Iw (os:List OSt):Prop:=∀ i,i<os.length→OSm (os.getD i CB)
section
variable {inp:Int} {i:Nat} {s:Stp} (h:iP inp i s)
include h
end
structure LayLen (L:Lay):Prop where
  rl:L.W.length≤1000000
  rls:∀ i,i<L.W.length→(L.W.getD i []).length≤1000000
  bl:L.B.length≤1000000
structure Mat (W:List (List Rat)) (r c:Nat):Prop where
  rows:W.length=r
  rpos:0<r
  cpos:0<c
  row:∀ i,i<r→(W.getD i []).length=c
structure Net3 (ls:List Lay) (d:Nat→Nat):Prop where
  len:1≤ls.length∧ls.length≤4
  first:d 0≤20
  lay:∀ i,i<ls.length→Mat (ls.getD i iD).W (d (i+1)) (d i)∧(ls.getD i iD).B.length=d (i+1)∧d (i+1)≤12∧((ls.getD i iD).k=1∨(ls.getD i iD).k=2∨(ls.getD i iD).k=3)
theorem pI (u:Rat):0<((1:Int):Rat)+dw u:=by
 have h:(0:Rat)≤dw u:=by rw[←Rat.num_nonneg,jb];omega
 have h1:(0:Rat)<((1:Int):Rat):=by decide
 grind
theorem l5 (u:Rat):(((1:Int):Rat)+dw u).num≠0:=by
 have:=pI u;intro e;have e2:((1:Int):Rat)+dw u=0:=by rw[←Ma];exact e
 rw[e2] at this;exact MO this kD
def Jt (k:Int)(u:Rat):Rat:=if k=2 then maxR u 0 else if k=3 then u/(((1:Int):Rat)+dw u) else u
def Im (L:Lay)(x:List Rat):List Rat:=(List.range L.W.length).map fun i=>Jt L.k (FB (L.W.getD i []) x x.length+L.B.getD i 0)
def Au (ls:List Lay)(xs:List Rat):Nat→List Rat
  | 0=>xs
  | k+1=>Im (ls.getD k iD) (Au ls xs k)
abbrev gD (ls:List Lay)(xs:List Rat)(k r:Nat):Rat:=FB ((ls.getD k iD).W.getD r []) (Au ls xs k) (Au ls xs k).length
abbrev gS (ls:List Lay)(xs:List Rat)(k r:Nat):Rat:=gD ls xs k r+((ls.getD k iD).B).getD r 0
structure NetB (ls:List Lay) (xs:List Rat):Prop where
  w:∀ k i j,LQ 1000000 (((ls.getD k iD).W.getD i []).getD j 0)
  b:∀ k i,LQ 1000000 ((ls.getD k iD).B.getD i 0)
  x:∀ k,k≤ls.length→∀ j,LQ 1000000 ((Au ls xs k).getD j 0)
theorem RQ.eq {h:Hp}{v:Value}{p q:Rat}(x:RQ h v p)(e:p=q):RQ h v q:=by subst e;exact x
structure LaySz (L:Lay):Prop where
  rl:L.W.length≤8
  rls:∀ i,(L.W.getD i []).length≤8
  bl:L.B.length≤8
  w:∀ i j,LQ 1 ((L.W.getD i []).getD j 0)
  b:∀ i,LQ 1 (L.B.getD i 0)
  b4:L.B.length≤4
  w4:(L.W.getD 0 []).length≤4
theorem uk {k:Nat}(h:1≤k):LQ k 0:=(LQ.lit (z:=0) kD).mono h
theorem s7 (a:Rat):cX a a=0:=by unfold cX dJ;rw[MM oM,MM oM]
section fut
variable {P:Program} {n:Nat} {N R:Po} {X:Nat→Po} {ops:Array Oper} {k0 K:Nat} {L:Array Bool} {Γ:bz} {w:World} {h:Hp} {w0:World} {h0:Hp} {B:List Bx} {Rs:List Rw} {F:List (Hp→Prop)}
end fut
theorem qH {α:Type}{l:List α}{n i:Nat}{d:α}:(l.drop n).getD i d=l.getD (n+i) d:=by simp[Kl]
structure LayS4 (L:Lay):Prop where
  rl:L.W.length≤4
  rls:∀ i,(L.W.getD i []).length≤4
  bl:L.B.length≤4
  w:∀ i j,LQ 1 ((L.W.getD i []).getD j 0)
  b:∀ i,LQ 1 (L.B.getD i 0)
section fla
variable {P:Program} {n:Nat} {N R:Po} {X:Nat→Po} {ops:Array Oper} {k:Nat} {Γ:bz} {w:World} {h:Hp} {w0:World} {h0:Hp} {B:List Bx} {Rs:List Rw} {F:List (Hp→Prop)}
end fla
section prt
variable {M:Ms} {P:Program} {n:Nat} {N R:Po} {X:Nat→Po} {ops:Array Oper} {k k0:Nat} {hr:Hp} {AL:List Al} {L:Array Bool} {Γ:bz} {w:World} {h:Hp}
end prt
def cl (a:Rat):Nat→Rat
  | 0=>((1:Int):Rat)
  | k+1=>cl a k*a
theorem n3 {a:Rat}(h:a≠0):∀ k,cl a k≠0
 | 0=>by show ((1:Int):Rat)≠0;decide
 | k+1=>by show cl a k*a≠0;have:=n3 h k;grind
theorem ti {k:Nat}(h:0<k):cl 0 k=0:=by
 obtain ⟨j,rfl⟩:∃ j,k=j+1:=⟨k-1,by omega⟩
 show cl 0 j*0=0;rw[Rat.mul_zero]
def fB (a:Rat)(n:Int):Rat:=if 0≤n then cl a n.natAbs else ((1:Int):Rat)/cl a n.natAbs
def lw (a b:Rat):Rat:=if b<a then b else a
def mB (op n:Int)(q a b:Rat):Rat :=
  if op=1 then q else if op=3 then a+b else if op=4 then a-b else if op=5 then a*b else if op=6 then a/b else if op=7 then -a
  else if op=8 then fB a n else if op=9 then dw a else if op=10 then maxR a 0 else if op=11 then a/(dw a+((1:Int):Rat)) else if op=12 then maxR a b else lw a b
def i5 (op n:Int)(a b:Rat):Prop:=(op=6→b≠0)∧(op=8→n<0→a≠0)
instance (op n:Int) (a b:Rat):Decidable (i5 op n a b):=by unfold i5;infer_instance
def Ji (op:Int)(a b:Rat):Prop:=(op=9∨op=10)∧a=0∨(op=12∨op=13)∧a=b
instance (op:Int) (a b:Rat):Decidable (Ji op a b):=by unfold Ji;infer_instance
theorem np {a:Rat}(h:a≠0):a.num≠0:=fun e=>h (by rw[←Ma];exact e)
theorem it {a:Rat}{K:Nat}(h:LQ K a):∀ k,LQ (k*K+1) (cl a k)
 | 0=>LQ.mono (k:=1) (LQ.lit (z:=1) kD) oM
 | k+1=>((it h k).mul h).mono (by rw[Nat.add_mul];omega)
theorem C6 (a b:Rat)(c:b=0)(w:World)(h:Hp)(g:G w h):CV 113 #[qv a,qv b] w h (.tuple #[qv 0,.bool false]):=by
 subst c;exact GY a (uk oM) w h g
theorem pz (u:Rat):(dw u+((1:Int):Rat)).num≠0:=by rw[Rat.add_comm];exact l5 u
theorem gk {a b:Rat}:cX a b=0↔a=b:=by
 constructor
 ·intro h
  have h1:¬a<b:=fun x=>by have:=iA.2 x;omega
  have c:¬b<a:=fun x=>by have:=iq.2 x;omega
  grind
 ·intro h;subst h
  have h1:¬cX a a<0:=fun x=>by have:=iA.1 x;grind
  have c:¬cX a a>0:=fun x=>by have:=iq.1 x;grind
  omega
theorem Iy (a b:Rat)(ha:LQ 100000000 a)(e:LQ 100000000 b)(w:World)(h:Hp)(g:G w h):CV 119 #[qv a,qv b] w h (qv (lw a b)):=by
 have c:=sS g;refine go Tryz.func119 [(0,qv a),(1,qv b)] rfl (av (lA 2 40 (qc a) c (fun j w2 k c=>lA 3 40 (qc b) c (fun p l i c=>lA 4 40 da c (fun x f u c=>ah (aa c [.o 5 (qv b) 1 0 5,.o 6 (qv a) 2 0 5] (ag 7 c (uE b a (LQ.mono e oM) (LQ.mono ha oM) _ _ c.g) (fun _ _ c=>?_))))))));cases za:(decide ((cX b a:Int)<(0:Int)))
 ·
  have zb:=oF za;exact lB 8 za (af (cK (aa c [.o 10 (qv a) 2 0 5] (lP 0 0 (qc a) c (fun _ c=>ac c [(0,0,5)] (qv a) (by unfold lw;rw[MM (fun d=>by have:=iA.2 d;omega)]))))))
 have zb:=oT za;exact lB 8 za (ak (aa c [.o 9 (qv b) 1 0 5] (lP 0 0 (qc b) c (fun _ c=>ac c [(0,0,5)] (qv b) (by unfold lw;rw[MN (iA.1 oM)])))))
end Go.Proofs.YtnflfcbfifhpaaaGreatDoor
