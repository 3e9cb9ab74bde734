/- Laws and contracts that the card of this claim stands on, part 4. No condition of ours. -/
import Derived.Test.YtmkcmnhnmajheaaGreatDoorPn0
import Derived.Test.YtmkcmnhnmajheaaGreatDoorPn1
import Derived.Test.YtmkcmnhnmajheaaGreatDoorPn2
set_option maxRecDepth 100000
set_option maxHeartbeats 4000000
namespace Go.Proofs.YtmkcmnhnmajheaaGreatDoor
open Go.RowKit
open Go.RowKit Go.Shelf
theorem lowL_init {n m:Nat}(h:n<256^m):∀ j,j<(m+3)/4→(List.replicate ((m+3)/4) 0).getD j 0=lowL n (m-0) j:=fun j hj=>by
  rw[Nat.sub_zero,lowL_top h];simp[hj]
theorem lowL_next {l:List Nat}{n m i x:Nat}(hi:i<m)(hl:l.length=(m+3)/4)(hv:∀ j,j<(m+3)/4→l.getD j 0=lowL n (m-i) j)(hx:x=lowL n (m-1-i) ((m-1-i)/4)) :
    ∀ j,j<(m+3)/4→(l.set ((m-1-i)/4) x).getD j 0=lowL n (m-(i+1)) j:=by
  intro j hj;rw[show m-(i+1)=m-1-i by omega]
  by_cases e:j=(m-1-i)/4
  · subst e
    have:(m-1-i)/4<l.length:=by omega
    simp[this,hx]
  · rw[lowL_step,if_neg e,show m-1-i+1=m-i by omega,←hv j hj]
    simp only[List.getD_eq_getElem?_getD]
    rw[List.getElem?_set_ne (Ne.symm e)]
theorem from_or {n k:Nat}:lowL n (k+1) (k/4) ||| (n/256^k%256)*2^(8*(k%4))=lowL n k (k/4):=by rw[lowL_step n k (k/4),if_pos rfl]
theorem shl_fit32 {b k:Nat}(hb:b<256):b*2^(8*(k%4))<4294967296:=by
  have:k%4=0∨k%4=1∨k%4=2∨k%4=3:=by omega
  rcases this with e|e|e|e<;>rw[e]<;>omega
theorem from_fin {l:List Nat}{n m:Nat}(hn:n<256^m)(hl:l.length=(m+3)/4)(hv:∀ j,j<(m+3)/4→l.getD j 0=lowL n (m-m) j):bval 4294967296 l=n∧Ld l:=by
  constructor
  · rw[←nval_bval]
    refine nval_of_digits l n (fun j hj=>by rw[hv j oM,Nat.sub_self,lowL_zero]) ?_;refine Nat.lt_of_lt_of_le hn ?_;rw[hl,show (256:Nat)=2^8 by rfl,show (4294967296:Nat)=2^32 by rfl,←Nat.pow_mul,←Nat.pow_mul];exact Nat.pow_le_pow_right oM oM
  · intro x hx
    obtain ⟨j,hj,rfl⟩:=List.mem_iff_getElem.1 hx;have:=hv j oM;have e:l[j]=l.getD j 0:=by simp[hj]
    rw[e,this];exact lowL_lt _ _ _
theorem rNatFrom (n m:Nat)(A:Option Addr)(cap:Nat)(hc:m≤cap)(hm:m≤1099511627776)(hn:n<256^m)(w:World)(h:Hp)(g:G w h)(hA:SlO 1 u8c 0 h A (byt n m)):CR 178 #[.slice A m cap] w h (fun v h1=>RN h1 v n):=by
 have hs:=((sS g).aS hA);have hbl:=byt_len n m;refine go Tryz.func178 [(0,qS A m cap)] rfl (cSL (lL hs [.v 2 (sZ)] (lNS (lL hs [.m 6 0,.v 7 (nV m)] (lIn 8 ((m:Nat)+3) (m+3) ?_)))));refine lV 9 (nV ((m+3)/4)) ?_ (hr:=rint (opQuo (t:=3) (u:=3) (x:=.tmp 8) (y:=.const (iV 4)) (k:=.i64) (a:=((m+3:Nat):Int)) (b:=(4:Int)) kR kR kR oM _) (quoI64 (m+3) 4 oM));refine lK 10 209 ((m+3)/4) 1 4 (uW 0) u32c 0 hs (fun b1 w2 h3 hs=>?_);have hl4:(List.replicate ((m+3)/4) 0).length=((m+3)/4):=by simp
 refine lL hs [.m 3 10] (lN (cQ (cSL (lL hs [.v 4 (iV 0)] (lN (kZ ?_))))));refine cTo _ (CG.loop (fun μ_ Γ w_=>∃ (i:Nat) (l:List Nat) (h_:Hp),μ_=m-i∧Γ=[(0,qS A m cap),(2,sZ),(3,qS (sB b1) ((m+3)/4) ((m+3)/4)),(4,nV i)]∧SS w h w_ h_ [⟨b1,209,(l).flatMap u32c⟩] [] [fun h_=>SlO 1 u8c 0 h_ A (byt n m)]∧i≤m∧l.length=(m+3)/4∧(∀ j,j<(m+3)/4→l.getD j 0=lowL n (m-i) j)) _ ⟨0,List.replicate ((m+3)/4) 0,h3,rfl,rfl,hs.to _ _,Nat.zero_le _,hl4,(lowL_init hn)⟩ ?_);rintro _ _ w5 ⟨i,l,h6,hm7,rfl,hs,hi,hll,hv⟩;refine cQ (cSL (lL hs [.m 11 4,.m 12 0,.v 13 (nV m)] ?_));cases hb8:(decide ((i:Int)<(m:Int)))
 ·
  have phb8:=oF hb8;refine lB 14 hb8 (lN (cIF (CG.exit ?_)))
  show CG _ _ _ _ _ _ _ _
  refine cSL (lL hs [.m 42 3] ?_);have him:i=m:=by omega
  rw[him] at hv
  obtain ⟨hf1,hf2⟩:=from_fin hn hll hv;obtain ⟨h9,hs,sg10,lo11,bc12⟩:=hs.pub 0;replace hs:=(hs.to [] []).aS (SlO.of_flat (sz:=1) (f:=u32c) (d:=0) (b:=b1) (o:=0) (l:=l) (fun _=>rfl) sg10);refine lC 43 hs (rTrim (sB b1) ((m+3)/4) l ((m+3)/4) hll oM oM _ _ hs.g hs.f.1) ?_;rintro _ _ _ hs rfl;exact lL hs [.m 2 43] (lN (kX (hs.ret [] (qS (sB b1) (tl l ((m+3)/4)) ((m+3)/4)) (RN.trim hf2 hf1 hll oM hs.f.1))))
 have phb8:=oT hb8;refine lB 14 hb8 (lN (cIT (cK (cQ (kZ (cSL (lL hs [.m 17 0,.v 18 (nV m)] (lIn 19 ((m:Nat)-1) (m-1) ?_))))))));refine lL hs [.m 20 4] (lIn 21 ((m-1:Nat)-(i:Nat)) ((m-1)-i) ?_);refine lL hs [.m 5 21] (lN (cR 19 [] mixed hs al_nil ?_));refine eV 0 22 (qS (sB b1) ((m+3)/4) ((m+3)/4)) (eV 1 23 (nV ((m-1)-i)) (eV 2 24 (nV (((m-1)-i)/4)) ?_ (hv:=fun _=>rint (opQuo (t:=3) (u:=3) (x:=.tmp 23) (y:=.const (iV 4)) (k:=.i64) (a:=(((m-1)-i:Nat):Int)) (b:=(4:Int)) kR kR kR oM _) (quoI64 ((m-1)-i) 4 oM))));refine eV 3 25 (qS (sB b1) ((m+3)/4) ((m+3)/4)) (eV 4 26 (nV ((m-1)-i)) (eV 5 27 (nV (((m-1)-i)/4)) ?_ (hv:=fun _=>rint (opQuo (t:=3) (u:=3) (x:=.tmp 26) (y:=.const (iV 4)) (k:=.i64) (a:=(((m-1)-i:Nat):Int)) (b:=(4:Int)) kR kR kR oM _) (quoI64 ((m-1)-i) 4 oM))));refine eX 6 28 (sB b1) ((m+3)/4) ((m+3)/4) 1 (((m-1)-i)/4:Nat) (((m-1)-i)/4:Nat) rfl (eQ 7 29 0 l u32c 1 0 (((m-1)-i)/4:Nat) (mW ((l).getD (((m-1)-i)/4:Nat) 0)) hs oM (eV 8 30 (qS A m cap) (eV 9 31 (nV i) (eX 10 32 A m cap 1 (i:Nat) i ((hs.f.1).ok oM) ?_))));have hvk:=hv ((m-1-i)/4) oM;have hor:l.getD ((m-1-i)/4) 0 ||| (n/256^(m-1-i)%256)*2^(8*((m-1-i)%4))=lowL n (m-1-i) ((m-1-i)/4):=by rw[hvk,show m-i=m-1-i+1 by omega];exact from_or
 have hlt:l.getD ((m-1-i)/4) 0<4294967296:=by rw[hvk];exact lowL_lt _ _ _
 have hvk:=hv ((m-1-i)/4) oM;have hor:l.getD ((m-1-i)/4) 0 ||| (n/256^(m-1-i)%256)*2^(8*((m-1-i)%4))=lowL n (m-1-i) ((m-1-i)/4):=by rw[hvk,show m-i=m-1-i+1 by omega];exact from_or
 have hlt:l.getD ((m-1-i)/4) 0<4294967296:=by rw[hvk];exact lowL_lt _ _ _
 refine eHe 11 33 (.int .u8 ((byt n m).getD i 0:Nat)) hs ((hs.f.1).el i oM) (by rw[byt_get n m _ oM]) (eV 12 34 (mW (n/256^(m-1-i)%256)) ?_ (hv:=fun _=>rT (((n/256^(m-1-i)%256:Nat):Int)) kR (fitU32 oM oM)));refine eV 13 35 (nV ((m-1)-i)) (eV 14 36 (nV (((m-1)-i)%4)) ?_ (hv:=fun _=>rint (opRem (t:=3) (u:=3) (x:=.tmp 35) (y:=.const (iV 4)) (k:=.i64) (a:=(((m-1)-i:Nat):Int)) (b:=(4:Int)) kR kR kR oM _) (tmodNat ((m-1)-i) 4)));refine eIn 15 37 (8*(((m-1)-i)%4:Nat)) (8*(((m-1)-i)%4:Nat)) (eV 16 38 (mV (8*(((m-1)-i)%4:Nat))) ?_ (hv:=fun _=>rU (((8*(((m-1)-i)%4:Nat):Nat):Int)) kR (fitU64 oM oM)));refine eV 17 39 (mW ((n/256^(m-1-i)%256)*2^(8*((m-1-i)%4)))) ?_ (hv:=fun _=>opShlU32 (t:=209) (u:=210) (x:=.tmp 34) (y:=.tmp 38) (ky:=.u64) (a:=n/256^(m-1-i)%256) (n:=8*((m-1-i)%4)) kR kR kR oM (shl_fit32 oM) _);refine eV 18 40 (mW (lowL n (m-1-i) ((m-1-i)/4))) ?_ (hv:=fun _=>rint (opOr32 (t:=209) (u:=209) (x:=.tmp 29) (y:=.tmp 39) (a:=l.getD ((m-1-i)/4) 0) (b:=(n/256^(m-1-i)%256)*2^(8*((m-1-i)%4))) kR kR kR hlt (shl_fit32 oM) _) (congrArg Int.ofNat hor));refine eD0 hs (fun _ zb hs=>tX 19 41 (sB b1) ((m+3)/4) ((m+3)/4) 1 (((m-1)-i)/4:Nat) (((m-1)-i)/4:Nat) rfl (tW 20 0 l u32c 1 (((m-1)-i)/4:Nat) (lowL n (m-1-i) ((m-1-i)/4):Nat) hs oM (fun _ hs=>?_)));have za:((l).set (((m-1)-i)/4:Nat) (lowL n (m-1-i) ((m-1-i)/4):Nat)).length=((m+3)/4):=by rw[List.length_set];exact hll
 replace hs:=hs.to [⟨b1,209,((l).set (((m-1)-i)/4:Nat) (lowL n (m-1-i) ((m-1-i)/4):Nat)).flatMap u32c⟩] [];refine tN (kQ (lL hs [.m 15 4] (lIn 16 ((i:Nat)+1) (i+1) ?_)));refine lL hs [.m 4 16] (lD ?_);intro a_ ka;refine ⟨_,_,?_,⟨i+1,(l).set (((m-1)-i)/4:Nat) (lowL n (m-1-i) ((m-1-i)/4):Nat),zb,rfl,rfl,hs.to _ _,oM,za,(lowL_next oM hll hv rfl)⟩,ka.to _ kR⟩
 omega
def qabs (q:Rat):Rat:=if q.num<0 then -q else q
theorem qabs_num (q:Rat):(qabs q).num=((iabs q.num:Nat):Int):=by
  unfold qabs iabs;split
  · rw[Rat.neg_num];omega
  · omega
theorem qabs_den (q:Rat):(qabs q).den=q.den:=by
  unfold qabs;split
  · rw[Rat.neg_den]
  · rfl
theorem LQ.ln {q:Rat}(h:LQ 100000000 q):(lim (iabs q.num)).length≤300000000:=Nat.le_trans (lim_wds _) (by have:=h.1;omega)
theorem LQ.ld {q:Rat}(h:LQ 100000000 q):(lim q.den).length≤300000000:=Nat.le_trans (lim_wds _) (by have:=h.2;omega)
theorem nl {k:Nat}{q:Rat}(h:LQ k q)(hk:k≤100000000:=by omega):(lim (iabs q.num)).length≤300000000:=LQ.ln (h.mono hk)
theorem nD {k:Nat}{q:Rat}(h:LQ k q)(hk:k≤100000000:=by omega):(lim q.den).length≤300000000:=LQ.ld (h.mono hk)
theorem LQ.abs {k:Nat}{q:Rat}(h:LQ k q):LQ k (qabs q):=⟨by rw[qabs_num];exact h.1,by rw[qabs_den];exact h.2⟩
theorem LQ.sub {k l:Nat}{a b:Rat}(ha:LQ k a)(hb:LQ l b):LQ (k+l+1) (a-b):=by rw[Rat.sub_eq_add_neg];exact ha.add hb.neg
theorem LQ.inv {k:Nat}{q:Rat}(h:LQ k q):LQ k q⁻¹:=by
  by_cases hz:q.num=0
  · have:q=0:=by rw[←Rat.num_eq_zero];exact hz
    subst this;rw[Rat.inv_zero];exact h
  · obtain ⟨h1,h2⟩:=rat_inv q hz
    exact ⟨by rw[h1,iabs_sgn];exact h.2,by rw[h2];exact h.1⟩
theorem LQ.div {k l:Nat}{a b:Rat}(ha:LQ k a)(hb:LQ l b):LQ (k+l) (a/b):=by rw[Rat.div_def];exact ha.mul hb.inv
theorem LQ.int {z:Int}(h0 : -9223372036854775808≤z)(h1:z≤9223372036854775807):LQ 1 (z:Rat):=⟨by rw[Rat.num_intCast];exact wds_len_lit.2 (by unfold iabs;omega),by rw[Rat.den_intCast];exact wds_len_lit.2 oM⟩
theorem LQ.lit {z:Int}(h : -9223372036854775808≤z∧z≤9223372036854775807):LQ 1 (z:Rat):=LQ.int h.1 h.2
def dotq (a b:List Rat):Nat→Rat
  | 0=>0
  | k+1=>dotq a b k+a.getD k 0*b.getD k 0
theorem LQ.dot {a b:List Rat}{k l n:Nat}(ha:∀ i,i<n→LQ k (a.getD i 0))(hb:∀ i,i<n→LQ l (b.getD i 0)):∀ i,i≤n→LQ (i*(k+l+1)+1) (dotq a b i)
  | 0,_=>by rw[Nat.zero_mul];exact LQ.lit (z:=0) kD
  | i+1,h=>by
    have h1:=(LQ.dot ha hb i oM).add ((ha i oM).mul (hb i oM));refine LQ.mono h1 ?_;rw[Nat.succ_mul];omega
theorem rNatDivS (a:Nat)(A:Option Addr)(c:Nat)(hc:(lim a).length≤c)(b:Nat)(D:Option Addr)(d:Nat)(hd:(lim b).length≤d)(hLa:(lim a).length≤3000000000)(hLb:(lim b).length≤1)(hb:0<b)(w:World)(h:Hp)(g:G w h)(hA:S3 A (lim a) h)(hD:S3 D (lim b) h):CR 184 #[.slice A (lim a).length c,.slice D (lim b).length d] w h (fun v h1=>∃ v1 v2,v=.tuple #[v1,v2]∧RN h1 v1 (a/b)∧RN h1 v2 (a%b)):=by
  have hp:=lim_pos.2 hb
  rcases Nat.lt_or_ge a b with h1|h1
  · exact rNatDivLt a A c hc b D d hd hLa oM h1 w h g hA hD
  · exact rNatDivOne a A c hc b D d hd hLa oM h1 oM w h g hA hD
theorem rNatGcdS (a:Nat)(A:Option Addr)(c:Nat)(hc:(lim a).length≤c)(b:Nat)(D:Option Addr)(d:Nat)(hd:(lim b).length≤d)(hLa:(lim a).length≤3000000000)(hLb:(lim b).length≤1)(w:World)(h:Hp)(g:G w h)(hA:S3 A (lim a) h)(hD:S3 D (lim b) h):CR 183 #[.slice A ((lim a).length) c,.slice D ((lim b).length) d] w h (fun v h1=>RN h1 v (Nat.gcd a b)):=by
 have hs:=(((sS g).aS hA).aS hD);refine go Tryz.func183 [(0,qS A ((lim a).length) c),(1,qS D ((lim b).length) d)] rfl (cSL (lL hs [.v 4 (sZ)] (lN (cQ (kZ ?_)))));replace hs:=hs.aS hs.f.1;replace hs:=hs.aS hs.f.r.1;refine cTo _ (CG.loop (fun μ_ Γ w_=>∃ (x:Nat) (A1:Option Addr) (c1:Nat) (y:Nat) (A2:Option Addr) (c2:Nat) (h_:Hp),μ_=y∧Γ=[(4,sZ),(0,qS A1 ((lim x).length) c1),(1,qS A2 ((lim y).length) c2)]∧SS w h w_ h_ [] [] [S3 A1 (lim x),S3 A2 (lim y),S3 D (lim b),S3 A (lim a)]∧(lim x).length≤c1∧(lim y).length≤c2∧(lim x).length≤3000000000∧(lim y).length≤1∧Nat.gcd x y=Nat.gcd a b) _ ⟨a,A,c,b,D,d,h,rfl,rfl,hs.to _ _,hc,hd,hLa,hLb,rfl⟩ ?_);rintro _ _ w1 ⟨x,A1,c1,y,A2,c2,h2,hm3,rfl,hs,hc1,hc2,hl1,hl2,hG⟩;refine cQ (cSL (lL hs [.m 7 1,.v 8 (nV ((lim y).length))] ?_));cases hb4:(decide ((0:Int)<(((lim y).length:Nat):Int)))
 ·
  have phb4:=oF hb4;refine lB 9 hb4 (lN (cIF (CG.exit ?_)))
  show CG _ _ _ _ _ _ _ _
  refine cSL (lL hs [.m 18 0,.m 4 18] (lN (kX ?_)));have hy0:y=0:=Nat.eq_zero_of_not_pos (fun h_=>by have:=lim_pos.2 h_;omega);exact hs.ret [] (qS A1 ((lim x).length) c1) (by rw[←hG,hy0,Nat.gcd_zero_right];exact ⟨A1,c1,rfl,hc1,hs.f.1⟩)
 have phb4:=oT hb4;refine lB 9 hb4 (lN (cIT (cK (kZ (cSL (lL hs [.m 11 0,.m 12 1] (lC 13 hs (rNatDivS x A1 c1 hc1 y A2 c2 hc2 oM oM (lim_pos.1 oM) _ _ hs.g hs.f.1 hs.f.2.1) ?_)))))));rintro _ w5 h6 hs ⟨_,_,rfl,⟨Aq,cq,rfl,hcq,hq⟩,⟨Ar,cr,rfl,hcr,hr⟩⟩;replace hs:=hs.aS hr;have hmd:=Nat.mod_lt x (lim_pos.1 (show 0<(lim y).length by omega));have hml:=lim_len_mono (show x%y≤y by omega);refine lL hs [.m 10 13,.v 14 (qS Aq (lim (x/y)).length cq),.v 15 (qS Ar ((lim (x%y)).length) cr),.m 5 14,.m 6 15] (lNS (lL hs [.m 16 1,.m 0 16] (lN (kQ (lL hs [.m 17 6,.m 1 17] (lD ?_))))));intro a_ ka;replace hs:=((hs.tl.tl.tl.aS hs.f.1).aS hs.f.r.1);refine ⟨_,_,?_,⟨y,A2,c2,x%y,Ar,cr,h6,rfl,rfl,hs.to _ _,hc2,hcr,oM,oM,(by rw[gcd_mod_swapL];exact hG)⟩,ka.to _ kR⟩
 omega
theorem rNatGcdES (a:Nat)(A:Option Addr)(c:Nat)(hc:(lim a).length≤c)(b:Nat)(D:Option Addr)(d:Nat)(hd:(lim b).length≤d)(q:Nat)(hq:q=Nat.gcd a b)(hLa:(lim a).length≤3000000000)(hLb:(lim b).length≤1)(w:World)(h:Hp)(g:G w h)(hA:S3 A (lim a) h)(hD:S3 D (lim b) h):CR 183 #[.slice A (lim a).length c,.slice D (lim b).length d] w h (fun v h1=>RN h1 v q):=by
  subst hq;exact rNatGcdS a A c hc b D d hd hLa hLb w h g hA hD
theorem lim_small1 {z:Int}(h0 : -4294967296<z)(h1:z<4294967296):(lim (iabs z)).length≤1:=lim_len_le (by unfold iabs;omega)
theorem rMakeS (x:Int)(A:Option Addr)(c:Nat)(hc:(lim (iabs x)).length≤c)(hLx:(lim (iabs x)).length≤2000000000)(y:Int)(D:Option Addr)(d:Nat)(hd:(lim (iabs y)).length≤d)(hLy:(lim (iabs y)).length≤1)(hd0:y≠0)(w:World)(h:Hp)(g:G w h)(hA:S3 A (lim (iabs x)) h)(hD:S3 D (lim (iabs y)) h):CR 149 #[.agg #[.bool (ineg x),.slice A ((lim (iabs x)).length) c],.agg #[.bool (ineg y),.slice D ((lim (iabs y)).length) d]] w h (fun v h1=>RQ h1 v (mkR x y)):=by
 have hs:=(((sS g).aS hA).aS hD);obtain ⟨hm1,hm2,hq0⟩:=mkR_parts x y hd0;obtain ⟨q,hq⟩:∃ q,q=Nat.gcd (iabs x) (iabs y):=⟨_,rfl⟩;rw[←hq] at hm1 hm2 hq0
 have hql:(lim q).length≤1:=lim_len_le' (by rw[hq];exact Nat.gcd_le_right _ (by unfold iabs;omega)) hLy;refine go Tryz.func149 [(0,.agg #[.bool (ineg x),qS A ((lim (iabs x)).length) c]),(1,.agg #[.bool (ineg y),qS D ((lim (iabs y)).length) d])] rfl (cSL (lA 2 95 ([.bool (ineg x),qS A ((lim (iabs x)).length) c]) hs (fun b1 w2 h3 hs=>lA 3 95 ([.bool (ineg y),qS D ((lim (iabs y)).length) d]) hs (fun b4 w5 h6 hs=>lA 4 97 ([qF,sZ,sZ]) hs (fun b7 w8 h9 hs=>lNS (lL hs [.v 10 (qP b1 1),.o 11 (qS A ((lim (iabs x)).length) c) 2 1 1,.v 12 (qP b4 1),.o 13 (qS D ((lim (iabs y)).length) d) 1 1 1] (lC 14 hs (rNatGcdES (iabs x) A c hc (iabs y) D d hd q hq oM oM _ _ hs.g hs.f.2.1 hs.f.1) ?_)))))));rintro _ _ _ hs ⟨zf,zg,rfl,zc,zk⟩;replace hs:=hs.aS zk;refine lL hs [.m 5 14] (lNS (lL hs [.v 16 (qP b1 1),.o 17 (qS A ((lim (iabs x)).length) c) 2 1 1,.m 18 5] (lC 19 hs (rNatDivS (iabs x) A c hc q zf zg zc oM oM hq0 _ _ hs.g hs.f.r.1 hs.f.1) ?_)));rintro _ _ _ hs ⟨_,v2_A16,rfl,⟨zi,zj,rfl,zl,zm⟩,-⟩;replace hs:=hs.aS zm;refine lL hs [.m 15 19,.v 20 (qS zi ((lim ((iabs x)/q)).length) zj),.v 21 v2_A16,.m 6 20,.m 7 21] (lNS (lL hs [.v 23 (qP b4 1),.o 24 (qS D ((lim (iabs y)).length) d) 1 1 1,.m 25 5] (lC 26 hs (rNatDivS (iabs y) D d hd q zf zg zc oM oM hq0 _ _ hs.g hs.f.r.1 hs.f.2.1) ?_)));rintro _ _ _ hs ⟨_,v2_A22,rfl,⟨za,zb,rfl,zn,zo⟩,-⟩;replace hs:=hs.aS zo;refine lL hs [.m 22 26,.v 27 (qS za ((lim ((iabs y)/q)).length) zb),.v 28 v2_A22,.m 8 27,.m 9 28] (lNS (lL hs [.v 29 (pB b1),.o 30 (.bool (ineg x)) 2 0 1,.v 31 (pB b4),.o 32 (.bool (ineg y)) 1 0 1,.v 33 (.bool ((ineg x) != (ineg y))),.m 34 6] (lC 35 hs (rI ((ineg x) != (ineg y)) ((iabs x)/q) zi zj zl _ _ hs.g hs.f.2.1) ?_)));rintro _ _ _ hs ⟨zd,ze,rfl,zp,zq⟩;replace hs:=hs.aS zq;exact lL hs [.m 36 8,.v 37 (.agg #[.bool (ineg (sgn ((ineg x) != (ineg y)) ((iabs x)/q))),qS zd ((lim (iabs (sgn ((ineg x) != (ineg y)) ((iabs x)/q)))).length) ze,qS za ((lim ((iabs y)/q)).length) zb])] (lP 0 0 ([.bool (ineg (sgn ((ineg x) != (ineg y)) ((iabs x)/q))),qS zd ((lim (iabs (sgn ((ineg x) != (ineg y)) ((iabs x)/q)))).length) ze,qS za ((lim ((iabs y)/q)).length) zb]) hs (fun _ hs=>lN (kX (hs.ret [(0,0,3)] (.agg #[.bool (ineg (sgn ((ineg x) != (ineg y)) ((iabs x)/q))),qS zd ((lim (iabs (sgn ((ineg x) != (ineg y)) ((iabs x)/q)))).length) ze,qS za ((lim ((iabs y)/q)).length) zb]) (by unfold RQ;rw[hm1,hm2];exact ⟨_,_,_,_,rfl,zp,zn,hs.f.1,hs.f.2.1⟩)))))
theorem rOverS (x y:Int)(hy0:y≠0)(h0 : -9223372036854775808≤x)(h1:x<9223372036854775808)(h2 : -4294967296<y)(h3:y<4294967296)(w:World)(h:Hp)(g:G w h):CR 92 #[iV x,iV y] w h (fun v h1=>RQ h1 v (mkR x y)):=by
 have hs:=sS g;have hx_:=lim_small h0 h1;have hy_:=lim_small1 h2 h3;refine go Tryz.func92 [(0,iV x),(1,iV y)] rfl (cSL (lA 4 97 ([qF,sZ,sZ]) hs (fun b1 w2 h3 hs=>lNS (lL hs [.m 5 0] (lC 6 hs (rIntOf x oM oM _ _ hs.g) ?_)))));rintro _ w8 h9 hs ⟨A4,c5,rfl,hc6,hA7⟩;replace hs:=hs.aS hA7;refine lL hs [.m 7 1] (lC 8 hs (rIntOf y oM oM _ _ hs.g) ?_);rintro _ _ _ hs ⟨zl,zm,rfl,ze,zf⟩;replace hs:=hs.aS zf;refine lC 9 hs (rMakeS x A4 c5 hc6 oM y zl zm ze oM hy0 _ _ hs.g hs.f.2.1 hs.f.1) ?_;rintro _ _ _ hs ⟨za,zb,zc,zd,rfl,zg,zi,zj,zk⟩;replace hs:=hs.aP zj zk;exact lP 0 0 (rqx (mkR x y) za zb zc zd) hs (fun _ hs=>lN (kX (hs.ret [(0,0,3)] (rG (mkR x y) za zb zc zd) (by skip;exact ⟨_,_,_,_,rfl,zg,zi,hs.f.2.1,hs.f.1⟩))))
theorem hNat (a:Nat)(A:Option Addr)(c:Nat)(hc:(lim a).length≤c)(hl:(lim a).length≤300000000)(w:World)(h:Hp)(g:G w h)(hA:S3 A (lim a) h):CV 100 #[.slice A ((lim a).length) c] w h (nv a):=by
 have hs:=((sS g).aS hA);have hnb:=nb_len a;refine go Tryz.func100 [(0,qS A ((lim a).length) c)] rfl (cSL (lA 2 51 ([uV 0,eS]) hs (fun b1 w2 h3 hs=>lNS (lL hs [.m 3 0] (lC 4 hs (rNatBytes a A c hc oM _ _ hs.g hs.f.1) ?_)))));rintro _ w6 h7 hs ⟨A4,rfl,hA5⟩;replace hs:=hs.aS hA5;refine lC 5 hs (nFromB a ((nb a+7)/8) A4 ((nb a+7)/8) (nR _) oM (lt256 a) _ _ hs.g hs.f.1) ?_;rintro _ w8 h9 hs rfl;exact lP 0 0 (nc a) hs (fun _ hs=>lN (kX (hs.ret [(0,0,2)] (nv a) rfl)))
theorem hInt (z:Int)(A:Option Addr)(c:Nat)(hc:(lim (iabs z)).length≤c)(hl:(lim (iabs z)).length≤300000000)(w:World)(h:Hp)(g:G w h)(hA:S3 A (lim (iabs z)) h):CV 98 #[.agg #[.bool (ineg z),.slice A ((lim (iabs z)).length) c]] w h (iv z):=by
 have hs:=((sS g).aS hA);have hwl:=wds_lim (iabs z);refine go Tryz.func98 [(0,.agg #[.bool (ineg z),qS A ((lim (iabs z)).length) c])] rfl (cSL (lA 1 95 ([.bool (ineg z),qS A ((lim (iabs z)).length) c]) hs (fun b1 w2 h3 hs=>lA 2 53 ([qF,uV 0,eS]) hs (fun b4 w5 h6 hs=>lN (cQ (cR 6 [] mixed hs al_nil ?_))))));refine eV 0 3 (pB b1) (eO 1 4 [(1,0,1)] (.bool (ineg z)) hs (eV 2 5 (qP b1 1) (eO 3 6 [(1,1,1)] (qS A ((lim (iabs z)).length) c) hs (eC 4 7 hs (fun _ _ hs=>hNat (iabs z) A c hc (by first|exact hl|exact LQ.ld hq|omega) _ _ hs.g hs.f.1) ?_))));rintro _ _ _ w7 h8 hs rfl;refine eC 5 8 hs (fun _ _ hs=>wFrom (ineg z) (iabs z) oM _ _ hs.g) ?_;rintro _ _ _ w9 _ hs rfl;exact eD0 hs (fun _ _ hs=>tP 6 0 0 (ic (sgn (ineg z) (iabs z))) hs (fun _ hs=>tN (kX (hs.ret [(0,0,3)] (iv (sgn (ineg z) (iabs z))) (congrArg iv (sgn_self z))))))
theorem mkR_self (q:Rat):mkR q.num ((q.den:Nat):Int)=q:=by
  unfold mkR;rw[if_neg oM];show mkRat q.num q.den=q;rw[Rat.mkRat_self]
theorem hIn (q:Rat)(A1:Option Addr)(c1:Nat)(D1:Option Addr)(d1:Nat)(hc1:(lim (iabs q.num)).length≤c1)(hd1:(lim q.den).length≤d1)(hq:LQ 100000000 q)(w:World)(h:Hp)(g:G w h)(hA1:S3 A1 (lim (iabs q.num)) h)(hD1:S3 D1 (lim q.den) h)(tb:Tab h):CV 47 #[rG q A1 c1 D1 d1] w h (qv q):=by
 have hs:=((((sS g).aS hA1).aS hD1).aB tb);refine go Tryz.func47 [(0,rG q A1 c1 D1 d1)] rfl (cSL (lA 1 97 (rqx q A1 c1 D1 d1) hs (fun b1 w2 h3 hs=>lA 2 55 ([qF,uV 0,eS,uV 0,eS]) hs (fun b4 w5 h6 hs=>lN (cQ ?_)))));have hsr:=hs;refine cR 12 [⟨11,3,.cells (List.toArray [qF,uV 0,eS,uV 0,eS]) 55 (0,0)⟩] mixed hs (al_cons (alOk kR (fun _ _=>by kernel_rfl)) al_nil) (eV 0 6 (pB b1) (eO 1 7 [(1,0,2)] (.agg #[.bool (ineg q.num),qS A1 ((lim (iabs q.num)).length) c1]) hs (eV 3 9 (qP b1 2) (eO 4 10 [(1,2,1)] (qS D1 ((lim q.den).length) d1) hs (eC 2 8 hs (fun _ _ hs=>hInt q.num A1 c1 hc1 (LQ.ln hq) _ _ hs.g hs.f.r.1) ?_)))));rintro _ _ _ w7 h8 hs rfl;refine eC 5 11 hs (fun _ _ hs=>hNat q.den D1 d1 hd1 (by first|exact hl|exact LQ.ld hq|omega) _ _ hs.g hs.f.2.1) ?_;rintro _ _ _ w9 _ hs rfl;refine eC 6 12 hs (fun _ _ hs=>wFromN q.den _ _ hs.g) ?_;rintro _ _ _ _ _ hs rfl;refine eC 7 13 hs (fun _ _ hs=>fMake q.num (q.den:Int) (by have:=q.den_pos;omega) (by have:=hq.1;omega) (by show (wds q.den).length≤_;have:=hq.2;omega) _ _ hs.g hs.f.1) ?_;rintro _ _ _ _ _ hs rfl;exact eV 8 5 (.tuple #[qv (mkR q.num (q.den:Int)),qT]) (eV 9 14 (qv (mkR q.num (q.den:Int))) (eV 10 15 qT (eD1p [] hsr hs 55 [qF,uV 0,eS,uV 0,eS] (fun _ _ b17 hs=>tP 12 0 0 (qc (mkR q.num (q.den:Int))) hs (fun _ hs=>tV 13 4 qT (tNS (lL hs [.o 16 (qv (mkR q.num (q.den:Int))) 0 0 5] (lP 1 0 (qc (mkR q.num (q.den:Int))) hs (fun _ hs=>lN (kX (hs.ret [(1,0,5)] (qv (mkR q.num (q.den:Int))) (congrArg qv (mkR_self q)))))))))))))
theorem hInV (v:Value)(q:Rat)(hq:LQ 100000000 q)(w:World)(h:Hp)(g:G w h)(hv:RQ h v q)(tb:Tab h):CV 47 #[v] w h (qv q):=by
  obtain ⟨A,c,B,d,rfl,h1,h2,h3,h4⟩:=hv;exact hIn q A c B d h1 h2 hq w h g h3 h4 tb
theorem hOutNat (n:Nat)(hl:(wds n).length≤100000000)(w:World)(h:Hp)(g:G w h):CR 140 #[nv n] w h (fun v h1=>RN h1 v n):=by
 have hs:=sS g;have hnb:=nb_len64 n;refine go Tryz.func140 [(0,nv n)] rfl (cSL (lA 1 51 (nc n) hs (fun b1 w2 h3 hs=>lL hs [.v 2 (sZ)] (lNS (lL hs [.o 3 (nv n) 0 0 2] (lC 4 hs (nBytes n oM _ _ hs.g) ?_))))));rintro _ w6 h7 hs ⟨A4,rfl,hA5⟩;replace hs:=hs.aS hA5;refine lC 5 hs (rNatFrom n ((nb n+7)/8) A4 ((nb n+7)/8) (nR _) oM (lt256 n) _ _ hs.g hs.f.1) ?_;rintro _ _ _ hs ⟨A8,c9,rfl,za,zb⟩;replace hs:=hs.aS zb;exact lL hs [.m 2 5] (lN (kX (hs.ret [] (qS A8 ((lim n).length) c9) (⟨_,_,rfl,za,hs.f.1⟩))))
theorem sgn_sgn (z:Int):sgn (decide (z.sign<(0:Int))) (iabs z)=z:=by
  rcases Int.lt_trichotomy z 0 with h|h|h
  · rw[Int.sign_eq_neg_one_of_neg h];unfold sgn iabs;simp;omega
  · subst h;rfl
  · rw[Int.sign_eq_one_of_pos h];unfold sgn iabs;simp;omega
theorem hOutInt (z:Int)(hl:(wds (iabs z)).length≤100000000)(w:World)(h:Hp)(g:G w h):CR 138 #[iv z] w h (fun v h1=>RI h1 v z):=by
 have hs:=sS g;refine go Tryz.func138 [(0,iv z)] rfl (cSL (lA 1 53 (ic z) hs (fun b1 w2 h3 hs=>lA 2 95 ([qF,sZ]) hs (fun b4 w5 h6 hs=>lN (cQ (cR 7 [] mixed hs al_nil ?_))))));refine eO 0 3 [(1,0,3)] (iv z) hs (eO 3 6 [(1,0,3)] (iv z) hs (eC 1 4 hs (fun _ _ hs=>wSign z oM _ _ hs.g) ?_));rintro _ _ _ w7 h8 hs rfl;refine eV 2 5 (.bool (decide ((z.sign:Int)<(0:Int)))) (eC 4 7 hs (fun _ _ hs=>wAbs z _ _ hs.g) ?_);rintro _ _ _ w9 _ hs rfl;refine eC 5 8 hs (fun _ _ hs=>hOutNat (iabs z) (by first|exact hq.2|omega) _ _ hs.g) ?_;rintro _ _ _ _ _ hs ⟨zg,zi,rfl,zc,zd⟩;replace hs:=hs.aS zd;refine eC 6 9 hs (fun _ _ hs=>rI (decide ((z.sign:Int)<(0:Int))) (iabs z) zg zi zc _ _ hs.g hs.f.1) ?_;rintro _ _ _ _ _ hs ⟨za,zb,rfl,ze,zf⟩;replace hs:=hs.aS zf;exact eD0 hs (fun _ _ hs=>tP 7 0 0 ([.bool (ineg (sgn (decide ((z.sign:Int)<(0:Int))) (iabs z))),qS za ((lim (iabs (sgn (decide ((z.sign:Int)<(0:Int))) (iabs z)))).length) zb]) hs (fun _ hs=>tN (kX (hs.ret [(0,0,2)] (.agg #[.bool (ineg (sgn (decide ((z.sign:Int)<(0:Int))) (iabs z))),qS za ((lim (iabs (sgn (decide ((z.sign:Int)<(0:Int))) (iabs z)))).length) zb]) (by rw[sgn_sgn] at *;exact ⟨_,_,rfl,ze,hs.f.1⟩)))))
theorem hOut (q:Rat)(hq:LQ 100000000 q)(w:World)(h:Hp)(g:G w h):CR 84 #[qv q] w h (fun v h1=>RQ h1 v q):=by
 have hs:=sS g;refine go Tryz.func84 [(0,qv q)] rfl (cSL (lA 1 55 (qc q) hs (fun b1 w2 h3 hs=>lA 2 97 ([qF,sZ,sZ]) hs (fun b4 w5 h6 hs=>lN (cQ (cR 7 [] mixed hs al_nil ?_))))));refine eO 0 3 [(1,0,5)] (qv q) hs (eO 3 6 [(1,0,5)] (qv q) hs (eC 1 4 hs (fun _ _ hs=>fNum q _ _ hs.g) ?_));rintro _ _ _ w7 h8 hs rfl;refine eC 2 5 hs (fun _ _ hs=>hOutInt q.num hq.1 _ _ hs.g) ?_;rintro _ _ _ _ _ hs ⟨A9,za,rfl,zd,ze⟩;replace hs:=hs.aS ze;refine eC 4 7 hs (fun _ _ hs=>fDen q hq _ _ hs.g) ?_;rintro _ _ _ _ _ hs rfl;refine eC 5 8 hs (fun _ _ hs=>hOutNat q.den (by first|exact hq.2|omega) _ _ hs.g) ?_;rintro _ _ _ _ _ hs ⟨zb,zc,rfl,zf,zg⟩;replace hs:=hs.aS zg;exact eV 6 9 (rG q A9 za zb zc) (eD0 hs (fun _ _ hs=>tP 7 0 0 (rqx q A9 za zb zc) hs (fun _ hs=>tN (kX (hs.ret [(0,0,3)] (rG q A9 za zb zc) (⟨_,_,_,_,rfl,zd,zf,hs.f.2.1,hs.f.1⟩))))))
def sameQ (a b:Rat):Bool:=decide (a=b)
theorem sameQ_t {a b:Rat}(h1:cmpN (iabs a.num) (iabs b.num)=0)(h2:ineg a.num=ineg b.num)(h3:cmpN a.den b.den=0):true=sameQ a b:=by
  have e1:iabs a.num=iabs b.num:=by unfold cmpN at h1;split at h1;omega;split at h1;omega;omega
  have e3:a.den=b.den:=by unfold cmpN at h3;split at h3;omega;split at h3;omega;omega
  have e2:a.num=b.num:=by rw[←sgn_self a.num,←sgn_self b.num,e1,h2]
  symm
  exact decide_eq_true (Rat.ext e2 e3)
theorem cmpN_self (a:Nat):cmpN a a=0:=by simp[cmpN]
theorem sameQ_f {a b:Rat}(h:cmpN (iabs a.num) (iabs b.num)≠0∨ineg a.num≠ineg b.num∨cmpN a.den b.den≠0):false=sameQ a b:=by
  symm
  refine decide_eq_false ?_;rintro rfl
  rcases h with h|h|h
  · exact h (cmpN_self _)
  · exact h rfl
  · exact h (cmpN_self _)
theorem hSame (q r:Rat)(hq:LQ 100000000 q)(hr:LQ 100000000 r)(A1:Option Addr)(c1:Nat)(D1:Option Addr)(d1:Nat)(hc1:(lim (iabs r.num)).length≤c1)(hd1:(lim r.den).length≤d1)(w:World)(h:Hp)(g:G w h)(hA1:S3 A1 (lim (iabs r.num)) h)(hD1:S3 D1 (lim r.den) h):CV 60 #[qv q,rG r A1 c1 D1 d1] w h (.bool (sameQ q r)):=by
 have hs:=(((sS g).aS hA1).aS hD1);have hpd:0<(lim r.den).length:=lim_pos.2 r.den_pos;have hq1:=LQ.ln hq;have hq2:=LQ.ld hq;have hr1:=LQ.ln hr;have hr2:=LQ.ld hr;refine go Tryz.func60 [(0,qv q),(1,rG r A1 c1 D1 d1)] rfl (cSL (lA 2 55 (qc q) hs (fun b1 w2 h3 hs=>lA 3 97 (rqx r A1 c1 D1 d1) hs (fun b4 w5 h6 hs=>lL hs [.v 4 qF] (lNS (lL hs [.o 6 (qv q) 1 0 5] (lC 7 hs (hOut q hq _ _ hs.g) ?_)))))));rintro _ _ _ hs ⟨A7,c8,zd,ze,rfl,hc9,zk,zl,zm⟩;replace hs:=hs.aP zl zm;refine lA 5 97 ([qF,sZ,sZ]) hs (fun zc _ _ hs=>lP 0 0 (rqx q A7 c8 zd ze) hs (fun _ hs=>lN (cQ (cSL (lL hs [.v 8 (qP b4 2),.o 9 (qS D1 ((lim r.den).length) d1) 1 2 1,.v 10 (nV ((lim r.den).length))] ?_)))));have zf:((((lim r.den).length:Nat):Int) == (0:Int))=false:=(by simp;exact fun h=>Nat.lt_irrefl 0 (by rw[h] at hpd;exact hpd));have phb21:=neOfBeq zf;refine lB 11 zf (lN (cIF (cK (cSL (lL hs [.v 13 (pB zc),.v 14 (qP zc 1),.o 15 (qS A7 ((lim (iabs q.num)).length) c8) 0 1 1,.v 16 (pB b4),.v 17 (qP b4 1),.o 18 (qS A1 ((lim (iabs r.num)).length) c1) 1 1 1] (lC 19 hs (rNatCmp (iabs q.num) A7 c8 hc9 (iabs r.num) A1 c1 hc1 oM oM _ _ hs.g hs.f.2.1 hs.f.r.2.1) ?_))))));rintro _ _ _ hs rfl;cases za:((cmpN (iabs q.num) (iabs r.num):Int) == (0:Int))
 ·
  have zi:=neOfBeq za;refine lB 20 za (lL hs [.m 21 20] (lG 22 ?_));refine lG 23 (lG 24 (lG 25 (lG 26 (lG 27 (lG 28 (lL hs [.v 29 qF,.m 30 29] (lG 31 ?_)))))));exact lG 32 (lG 33 (lG 34 (lG 35 (lG 36 (lL hs [.v 37 qF,.m 4 37] (lN (kX (hs.ret [] qF (congrArg Value.bool (sameQ_f (by first|(left;assumption)|(right;right;assumption)|(right;left;exact beq_eq_false_iff_ne.1 ‹_›))))))))))))
 have zi:=eq_of_beq za;refine lB 20 za (lL hs [.m 21 20,.v 22 (pB zc),.v 23 (pB zc),.o 24 (.bool (ineg q.num)) 0 0 1,.v 25 (pB b4),.v 26 (pB b4),.o 27 (.bool (ineg r.num)) 1 0 1] ?_);cases zg:((ineg q.num) == (ineg r.num))
 ·
  refine lB 28 zg (lL hs [.v 29 qF,.m 30 29] (lG 31 ?_));exact lG 32 (lG 33 (lG 34 (lG 35 (lG 36 (lL hs [.v 37 qF,.m 4 37] (lN (kX (hs.ret [] qF (congrArg Value.bool (sameQ_f (by first|(left;assumption)|(right;right;assumption)|(right;left;exact beq_eq_false_iff_ne.1 ‹_›))))))))))))
 refine lB 28 zg (lL hs [.v 29 qT,.m 30 29,.v 31 (qP zc 2),.o 32 (qS zd ((lim q.den).length) ze) 0 2 1,.v 33 (qP b4 2),.o 34 (qS D1 ((lim r.den).length) d1) 1 2 1] (lC 35 hs (rNatCmp q.den zd ze zk r.den D1 d1 hd1 oM oM _ _ hs.g hs.f.1 hs.f.r.1) ?_));rintro _ _ _ hs rfl;cases zb:((cmpN q.den r.den:Int) == (0:Int))
 ·
  have zj:=neOfBeq zb;exact lB 36 zb (lL hs [.v 37 qF,.m 4 37] (lN (kX (hs.ret [] qF (congrArg Value.bool (sameQ_f (by first|(left;assumption)|(right;right;assumption)|(right;left;exact beq_eq_false_iff_ne.1 ‹_›))))))))
 have zj:=eq_of_beq zb;exact lB 36 zb (lL hs [.v 37 qT,.m 4 37] (lN (kX (hs.ret [] qT (congrArg Value.bool (sameQ_t aM (eq_of_beq ‹_›) aM))))))
theorem LQ.mkR {n d:Int}(hd:d≠0)(h0 : -9223372036854775808≤n)(h1:n≤9223372036854775807)(h2 : -9223372036854775808≤d)(h3:d≤9223372036854775807):LQ 1 (mkR n d):=by
  unfold Go.Proofs.YtmkcmnhnmajheaaGreatDoor.mkR
  have hp:0<iabs d:=by unfold iabs;omega
  obtain ⟨p1,p2,p3,p4⟩:=mkRat_parts (if d<0 then -n else n) (iabs d) hp;refine ⟨?_,?_⟩
  · rw[p1];refine wds_len_lit.2 (Nat.lt_of_le_of_lt (iabs_div_le _ _ p3) ?_)
    unfold iabs;split<;>omega
  · rw[p2];exact wds_len_lit.2 (Nat.lt_of_le_of_lt (Nat.div_le_self _ _) (by unfold iabs;omega))
theorem hIs (q:Rat)(z e:Int)(hq:LQ 100000000 q)(he:e≠0)(hz0 : -9223372036854775808≤z)(hz1:z<9223372036854775808)(he0 : -4294967296<e)(he1:e<4294967296)(w:World)(h:Hp)(g:G w h):CV 59 #[qv q,iV z,iV e] w h (.bool (sameQ q (mkR z e))):=by
 have hs:=sS g;have hb:LQ 100000000 (mkR z e):=(LQ.mkR he hz0 oM oM oM).mono oM;refine go Tryz.func59 [(0,qv q),(1,iV z),(2,iV e)] rfl (cSL (lA 3 55 (qc q) hs (fun b1 w2 h3 hs=>lL hs [.v 6 qF] (lN (cQ (cR 5 [] mixed hs al_nil ?_))))));refine eO 0 7 [(0,0,5)] (qv q) hs (eV 1 8 (iV z) (eV 2 9 (iV e) (eC 3 10 hs (fun _ _ hs=>rOverS z e oM oM oM oM oM _ _ hs.g) ?_)));rintro _ _ _ _ _ hs ⟨A4,c5,A8,c9,rfl,hc6,za,hA7,zb⟩;replace hs:=hs.aP hA7 zb;refine eC 4 11 hs (fun _ _ hs=>hSame q (mkR z e) hq hb A4 c5 A8 c9 hc6 za _ _ hs.g hs.f.2.1 hs.f.1) ?_;rintro _ _ _ _ _ hs rfl;exact eD0 hs (fun _ _ hs=>tV 5 6 (.bool (sameQ q (mkR z e))) (tN (kX (hs.ret [] (.bool (sameQ q (mkR z e))) rfl))))
def pick (n:Int)(m:Nat):Nat:=(n%(m:Int)).toNat
theorem pick_lt (n:Int)(m:Nat)(h:0<m):pick n m<m:=by
  unfold pick
  have h1:=Int.emod_nonneg n (show (m:Int)≠0 by omega);have h2:=Int.emod_lt_of_pos n (show (0:Int)<m by omega)
  omega
theorem pick_int (n:Int)(m:Nat)(h:0<m):((pick n m:Nat):Int)=n%(m:Int):=by
  unfold pick
  have h1:=Int.emod_nonneg n (show (m:Int)≠0 by omega)
  omega
theorem tmod_neg (n:Int)(m:Nat)(hm:0<m)(hn:n<0):(n%(m:Int)=0∧n.tmod (m:Int)=0)∨(0<n%(m:Int)∧n.tmod (m:Int)=n%(m:Int)-m):=by
  have b1:=Int.emod_nonneg n (show (m:Int)≠0 by omega);rw[Int.tmod_eq_emod]
  by_cases h:(m:Int)∣n
  · left
    rw[if_pos (.inr h)];have:=Int.emod_eq_zero_of_dvd h;exact ⟨this,by omega⟩
  · right
    have h2:¬(n%(m:Int)=0):=fun h'=>h (Int.dvd_of_emod_eq_zero h')
    rw[if_neg (by intro h';rcases h' with h'|h';omega;exact h h')];refine ⟨by omega,by simp⟩
def dDen (k:Nat):Nat:=match k with|0=>1|1=>1|2=>1|3=>2|4=>3|_=>4
theorem dDen_pos (k:Nat):0<dDen k:=by unfold dDen;split<;>omega
theorem dDen_le (k:Nat):dDen k≤4:=by unfold dDen;split<;>omega
def handRq (n:Int):Rat:=mkR ((pick n 41:Int)-20) (dDen (pick (n.tdiv 41) 6):Nat)
def smallq (n:Int):Rat:=mkR ((pick n 9:Int)-4) (((pick (n.tdiv 9) 2:Nat):Int)+1)
theorem tdiv_bd (n:Int)(m:Int)(hm:1<m)(hn0 : -9223372036854775808≤n)(hn1:n≤9223372036854775807) : -9223372036854775808≤n.tdiv m∧n.tdiv m≤9223372036854775807:=by
  have h1:(n.tdiv m).natAbs≤n.natAbs/2:=by
    rw[Int.natAbs_tdiv];exact Nat.div_le_div_left oM oM
  omega
theorem pick_neg {n:Int}{m:Nat}(hm:0<m)(h:n.tmod (m:Int)<0):n.tmod (m:Int)+m=((pick n m:Nat):Int):=by
  rw[pick_int n m hm]
  rcases Int.lt_or_le n 0 with hn|hn
  · rcases tmod_neg n m hm hn with ⟨h1,h2⟩|⟨h1,h2⟩<;>omega
  · rw[Int.tmod_eq_emod_of_nonneg hn] at h
    have:=Int.emod_nonneg n (show (m:Int)≠0 by omega)
    omega
theorem pick_nneg {n:Int}{m:Nat}(hm:0<m)(h:¬n.tmod (m:Int)<0):n.tmod (m:Int)=((pick n m:Nat):Int):=by
  rw[pick_int n m hm]
  rcases Int.lt_or_le n 0 with hn|hn
  · rcases tmod_neg n m hm hn with ⟨h1,h2⟩|⟨h1,h2⟩
    · omega
    · have:=Int.emod_lt_of_pos n (show (0:Int)<m by omega)
      omega
  · rw[Int.tmod_eq_emod_of_nonneg hn]
theorem tmod_bd (n:Int){m:Nat}(hm:0<m) : -(m:Int)<n.tmod (m:Int)∧n.tmod (m:Int)<m:=by
  have h1:=Int.tmod_lt_of_pos n (show (0:Int)<m by omega);have h2:=Int.lt_tmod_of_pos n (show (0:Int)<m by omega);exact ⟨h2,h1⟩
theorem hPick (n:Int)(m:Nat)(hm:0<m)(hm2:m<1000000)(w:World)(h:Hp)(g:G w h):CV 35 #[iV n,nV m] w h (nV (pick n m)):=by
 have hs:=sS g;obtain ⟨b1,b2⟩:=tmod_bd n hm;refine go Tryz.func35 [(0,iV n),(1,nV m)] rfl (cSL (lL hs [.v 4 (iV 0)] (lNS (lL hs [.m 5 0,.m 6 1] (lV 7 (iV (n.tmod (m:Nat))) ?_ (hr:=opRem (t:=3) (u:=3) (x:=.tmp 5) (y:=.tmp 6) (k:=.i64) (a:=n) (b:=(m:Nat)) kR kR kR oM _))))));refine lL hs [.m 0 7] (lN (cQ (cSL (lL hs [.m 8 0] ?_))));cases hb1:(decide ((n.tmod (m:Nat):Int)<(0:Int)))
 ·
  have phb1:=oF hb1;exact lB 9 hb1 (lN (cIF (cK (cSL (lL hs [.m 13 0,.m 4 13] (lN (kX (hs.ret [] (iV (n.tmod (m:Nat))) (congrArg (Value.int .i64) (pick_nneg hm aM))))))))))
 have phb1:=oT hb1;refine lB 9 hb1 (lN (cIT (kQ (lL hs [.m 10 0,.m 11 1] (lI 12 ((n.tmod (m:Nat))+(m:Nat)) ?_)))));exact lL hs [.m 0 12] (lNS (lL hs [.m 13 0,.m 4 13] (lN (kX (hs.ret [] (iV ((n.tmod (m:Nat))+(m:Nat))) (congrArg (Value.int .i64) (pick_neg hm aM)))))))
theorem index6_0 (w:World):(Instr.index 165 (.agg #[.int .i64 1,.int .i64 1,.int .i64 1,.int .i64 2,.int .i64 3,.int .i64 4]) (.int .i64 0)).run Tryz.prog w=.ok (.int .i64 1) w:=by kernel_rfl
theorem index6_1 (w:World):(Instr.index 165 (.agg #[.int .i64 1,.int .i64 1,.int .i64 1,.int .i64 2,.int .i64 3,.int .i64 4]) (.int .i64 1)).run Tryz.prog w=.ok (.int .i64 1) w:=by kernel_rfl
theorem index6_2 (w:World):(Instr.index 165 (.agg #[.int .i64 1,.int .i64 1,.int .i64 1,.int .i64 2,.int .i64 3,.int .i64 4]) (.int .i64 2)).run Tryz.prog w=.ok (.int .i64 1) w:=by kernel_rfl
theorem index6_3 (w:World):(Instr.index 165 (.agg #[.int .i64 1,.int .i64 1,.int .i64 1,.int .i64 2,.int .i64 3,.int .i64 4]) (.int .i64 3)).run Tryz.prog w=.ok (.int .i64 2) w:=by kernel_rfl
theorem index6_4 (w:World):(Instr.index 165 (.agg #[.int .i64 1,.int .i64 1,.int .i64 1,.int .i64 2,.int .i64 3,.int .i64 4]) (.int .i64 4)).run Tryz.prog w=.ok (.int .i64 3) w:=by kernel_rfl
theorem index6_5 (w:World):(Instr.index 165 (.agg #[.int .i64 1,.int .i64 1,.int .i64 1,.int .i64 2,.int .i64 3,.int .i64 4]) (.int .i64 5)).run Tryz.prog w=.ok (.int .i64 4) w:=by kernel_rfl
theorem index6 (k:Nat)(h:k<6)(w:World):(Instr.index 165 (.agg #[.int .i64 1,.int .i64 1,.int .i64 1,.int .i64 2,.int .i64 3,.int .i64 4]) (.int .i64 (k:Int))).run Tryz.prog w=.ok (.int .i64 ((dDen k:Nat):Int)) w:=by
  have:k=0∨k=1∨k=2∨k=3∨k=4∨k=5:=by omega
  rcases this with rfl|rfl|rfl|rfl|rfl|rfl
  · exact index6_0 w
  · exact index6_1 w
  · exact index6_2 w
  · exact index6_3 w
  · exact index6_4 w
  · exact index6_5 w
theorem idx6 {Γ:Env}{o:Oper}{x y:Operand}(k:Nat)(h:k<6)(ho:o.op=.index 165 x y)(hx:ev Γ x=.agg #[.int .i64 1,.int .i64 1,.int .i64 1,.int .i64 2,.int .i64 3,.int .i64 4])(hy:ev Γ y=.int .i64 (k:Nat))(w:World) :
    (execOp (ev Γ) o).run Tryz.prog w=.ok (.value (.int .i64 (dDen k:Nat))) w:=by
  unfold execOp;simp only[ho];rw[hx,hy,Sem.run_bind,index6 k h w];rfl
theorem hR (n:Int)(h0 : -9223372036854775808≤n)(h1:n≤9223372036854775807)(w:World)(h:Hp)(g:G w h):CR 43 #[iV n] w h (fun v h1=>RQ h1 v (handRq n)):=by
 have hs:=sS g;obtain ⟨t0,t1⟩:=tdiv_bd n 41 oM h0 h1;have l1:=pick_lt n 41 oM;have l2:=pick_lt (n.tdiv 41) 6 oM;have p1:=dDen_pos (pick (n.tdiv 41) 6);have p2:=dDen_le (pick (n.tdiv 41) 6);refine go Tryz.func43 [(0,iV n)] rfl (cSL (lA 2 97 ([qF,sZ,sZ]) hs (fun b1 w2 h3 hs=>lNS (lL hs [.m 3 0] (lC 4 hs (hPick (n) 41 oM oM _ _ hs.g) ?_)))));rintro _ w5 h6 hs rfl;have lp4:=pick_lt (n) 41 oM;refine lI 5 ((pick (n) 41:Nat)-20) (lL hs [.v 6 (.agg #[iV 1,iV 1,iV 1,iV 2,iV 3,iV 4]),.m 7 0] (lV 8 (iV (n.tdiv 41)) ?_ (hr:=rS ((n.tdiv 41)) kR (fitI64 oM oM))));refine lC 9 hs (hPick (n.tdiv 41) 6 oM oM _ _ hs.g) ?_;rintro _ w8 h9 hs rfl;have lp7:=pick_lt (n.tdiv 41) 6 oM;refine lV 10 (nV (dDen (pick (n.tdiv 41) 6))) ?_ (hr:=idx6 (x:=.tmp 6) (y:=.tmp 9) (pick (n.tdiv 41) 6) l2 kR kR kR _);refine lC 11 hs (rOverS ((pick (n) 41:Nat)-20) (dDen (pick (n.tdiv 41) 6):Nat) oM oM oM oM oM _ _ hs.g) ?_;rintro _ _ _ hs ⟨za,zb,zc,zd,rfl,ze,zf,zg,zi⟩;replace hs:=hs.aP zg zi;exact lP 0 0 (rqx (handRq n) za zb zc zd) hs (fun _ hs=>lN (kX (hs.ret [(0,0,3)] (rG (handRq n) za zb zc zd) (⟨_,_,_,_,rfl,ze,zf,hs.f.2.1,hs.f.1⟩))))
theorem mSmall (n:Int)(h0 : -9223372036854775808≤n)(h1:n≤9223372036854775807)(w:World)(h:Hp)(g:G w h):CR 70 #[iV n] w h (fun v h1=>RQ h1 v (smallq n)):=by
 have hs:=sS g;obtain ⟨t0,t1⟩:=tdiv_bd n 9 oM h0 h1;have l1:=pick_lt n 9 oM;have l2:=pick_lt (n.tdiv 9) 2 oM;refine go Tryz.func70 [(0,iV n)] rfl (cSL (lA 2 97 ([qF,sZ,sZ]) hs (fun b1 w2 h3 hs=>lNS (lL hs [.m 3 0] (lC 4 hs (hPick (n) 9 oM oM _ _ hs.g) ?_)))));rintro _ w5 h6 hs rfl;have lp4:=pick_lt (n) 9 oM;refine lI 5 ((pick (n) 9:Nat)-4) (lL hs [.m 6 0] (lV 7 (iV (n.tdiv 9)) ?_ (hr:=rS ((n.tdiv 9)) kR (fitI64 oM oM))));refine lC 8 hs (hPick (n.tdiv 9) 2 oM oM _ _ hs.g) ?_;rintro _ w8 h9 hs rfl;have lp7:=pick_lt (n.tdiv 9) 2 oM;refine lV 9 (iV (((pick (n.tdiv 9) 2:Nat):Int)+1)) ?_ (hr:=ri64 (n:=((pick (n.tdiv 9) 2:Nat):Int)+1) kR oM oM);refine lC 10 hs (rOverS ((pick (n) 9:Nat)-4) (((pick (n.tdiv 9) 2:Nat):Int)+1) oM oM oM oM oM _ _ hs.g) ?_;rintro _ _ _ hs ⟨za,zb,zc,zd,rfl,ze,zf,zg,zi⟩;replace hs:=hs.aP zg zi;exact lP 0 0 (rqx (smallq n) za zb zc zd) hs (fun _ hs=>lN (kX (hs.ret [(0,0,3)] (rG (smallq n) za zb zc zd) (⟨_,_,_,_,rfl,ze,zf,hs.f.2.1,hs.f.1⟩))))
theorem LQ.hand (n:Int):LQ 1 (handRq n):=by
  unfold handRq
  have l1:=pick_lt n 41 oM;have p1:=dDen_pos (pick (n.tdiv 41) 6);have p2:=dDen_le (pick (n.tdiv 41) 6);exact LQ.mkR oM oM oM oM oM
theorem LQ.small (n:Int):LQ 1 (smallq n):=by
  unfold smallq
  have l1:=pick_lt n 9 oM;have l2:=pick_lt (n.tdiv 9) 2 oM;exact LQ.mkR oM oM oM oM oM
abbrev RT:=Bool × Value × Value
def rqc (t:RT):List Value:=[.bool t.1,t.2.1,t.2.2]
def rqd:RT:=(false,undef,undef)
abbrev rA (t:RT):Value:=.agg #[.bool t.1,t.2.1,t.2.2]
abbrev Sr (A:Option Addr)(l:List RT):Hp→Prop:=fun h_=>SlO 3 rqc rqd h_ A l
def rtv (t:RT):Value:=.agg #[.bool t.1,t.2.1,t.2.2]
structure RTs (h:Hp) (ts:List RT) (qs:List Rat):Prop where
  len:ts.length=qs.length
  at_:∀ i,i<qs.length→RQ h (rtv (ts.getD i rqd)) (qs.getD i 0)
abbrev Rt (t:List RT)(l:List Rat):Hp→Prop:=fun h_=>RTs h_ t l
theorem RTs.gw {h h':Hp}{ts:List RT}{qs:List Rat}(r:RTs h ts qs)(u:Gw h h'):RTs h' ts qs:=⟨r.len,fun i hi=>(r.at_ i hi).gw u⟩
theorem SS.aT {t:List RT}{l:List Rat}{w0 w:World}{h0 h:Hp}{B:List Bx}{R:List Rw}{F:List (Hp→Prop)}(s:SS w0 h0 w h B R F)(p:RTs h t l):SS w0 h0 w h B R (Rt t l::F):=s.add (K:=Rt t l) p
theorem RTs.nil {h:Hp}:RTs h [] []:=⟨rfl,fun i hi=>by simp at hi⟩
theorem getD_snoc {α:Type}(l:List α)(x d:α)(i:Nat):(l++[x]).getD i d=if i<l.length then l.getD i d else if i=l.length then x else d:=by
  split
  · rename_i h;simp[List.getElem?_append_left h]
  · rename_i h
    split
    · rename_i h2;subst h2;simp
    · rename_i h2;simp[List.getElem?_eq_none (show (l++[x]).length≤i by simp;omega)]
theorem RTs.snoc {h:Hp}{ts:List RT}{qs:List Rat}(r:RTs h ts qs){t:RT}{q:Rat}(hq:RQ h (rtv t) q):RTs h (ts++[t]) (qs++[q]):=by
  refine ⟨by simp[r.len],fun i hi=>?_⟩;rw[getD_snoc,getD_snoc,r.len]
  split
  · rename_i h1;exact r.at_ i h1
  · rename_i h1
    have:i=qs.length:=by simp at hi;omega
    rw[if_pos this,if_pos this];exact hq
theorem take_snoc' {α:Type}{l:List α}{k:Nat}(d:α)(h:k<l.length):l.take (k+1)=l.take k++[l.getD k d]:=by
  rw[List.take_add_one];simp[h]
def vc (v:Value):List Value:=[v]
abbrev Sv (A:Option Addr)(l:List Value):Hp→Prop:=fun h_=>SlO 1 vc undef h_ A l
def rowq (zs:List Int):Nat→List Rat
  | 0=>[]
  | k+1=>rowq zs k++[if k<zs.length then handRq (zs.getD k 0) else 0]
theorem rowq_len (zs:List Int)(k:Nat):(rowq zs k).length=k:=by induction k with|zero=>rfl|succ k ih=>simp[rowq,ih]
def I64s (zs:List Int):Prop:=∀ k,-9223372036854775808≤zs.getD k 0∧zs.getD k 0≤9223372036854775807
structure RVs (h:Hp) (vs:List Value) (qss:List (List Rat)):Prop where
  len:vs.length=qss.length
  at_:∀ i,i<qss.length→∃ A cap,∃ ts:List RT,vs.getD i undef=.slice A ts.length cap∧ts.length≤cap∧SlO 3 rqc rqd h A ts∧RTs h ts (qss.getD i [])
abbrev Ru (t:List Value)(l:List (List Rat)):Hp→Prop:=fun h_=>RVs h_ t l
theorem RVs.gw {h h':Hp}{vs:List Value}{qss:List (List Rat)}(r:RVs h vs qss)(u:Gw h h'):RVs h' vs qss:=⟨r.len,fun i hi=>by
  obtain ⟨A,cap,ts,h1,h2,h3,h4⟩:=r.at_ i hi;exact ⟨A,cap,ts,h1,h2,h3.gw u,h4.gw u⟩⟩
theorem SS.aV {t:List Value}{l:List (List Rat)}{w0 w:World}{h0 h:Hp}{B:List Bx}{R:List Rw}{F:List (Hp→Prop)}(s:SS w0 h0 w h B R F)(p:RVs h t l):SS w0 h0 w h B R (Ru t l::F):=s.add (K:=Ru t l) p
structure QVs (h:Hp) (vs:List Value) (qss:List (List Rat)):Prop where
  len:vs.length=qss.length
  at_:∀ i,i<qss.length→SlV 5 qc 0 h (vs.getD i undef) (qss.getD i [])
abbrev Qu (t:List Value)(l:List (List Rat)):Hp→Prop:=fun h_=>QVs h_ t l
theorem QVs.gw {h h':Hp}{vs:List Value}{qss:List (List Rat)}(r:QVs h vs qss)(u:Gw h h'):QVs h' vs qss:=⟨r.len,fun i hi=>(r.at_ i hi).gw u⟩
theorem SS.aQ {t:List Value}{l:List (List Rat)}{w0 w:World}{h0 h:Hp}{B:List Bx}{R:List Rw}{F:List (Hp→Prop)}(s:SS w0 h0 w h B R F)(p:QVs h t l):SS w0 h0 w h B R (Qu t l::F):=s.add (K:=Qu t l) p
theorem QVs.nil {h:Hp}:QVs h [] []:=⟨rfl,fun i hi=>by simp at hi⟩
theorem QVs.snoc {h:Hp}{vs:List Value}{qss:List (List Rat)}(r:QVs h vs qss){v:Value}{l:List Rat}(hv:SlV 5 qc 0 h v l):QVs h (vs++[v]) (qss++[l]):=by
  refine ⟨by simp[r.len],fun i hi=>?_⟩;rw[getD_snoc,getD_snoc,r.len]
  split
  · rename_i h1;exact r.at_ i h1
  · rename_i h1
    have:i=qss.length:=by simp at hi;omega
    rw[if_pos this,if_pos this];exact hv
theorem RVs.nil {h:Hp}:RVs h [] []:=⟨rfl,fun i hi=>by simp at hi⟩
theorem RVs.snoc {h:Hp}{vs:List Value}{qss:List (List Rat)}(r:RVs h vs qss){v:Value}{l:List Rat}(hv:∃ A cap,∃ ts:List RT,v=.slice A ts.length cap∧ts.length≤cap∧SlO 3 rqc rqd h A ts∧RTs h ts l):RVs h (vs++[v]) (qss++[l]):=by
  refine ⟨by simp[r.len],fun i hi=>?_⟩;rw[getD_snoc,getD_snoc,r.len]
  split
  · rename_i h1;exact r.at_ i h1
  · rename_i h1
    have:i=qss.length:=by simp at hi;omega
    rw[if_pos this,if_pos this];exact hv
theorem rowq_step {zs:List Int}{k:Nat}{q:Rat}(hq:(if k<zs.length then handRq (zs.getD k 0) else 0)=q){ts':List RT}{h':Hp}(hh:RTs h' ts' (rowq zs k++[q])):RTs h' ts' (rowq zs (k+1)):=by
  show RTs h' ts' (rowq zs k++[_]);rw[hq];exact hh
theorem rowq_lq (zs:List Int):∀ n i,LQ 1 ((rowq zs n).getD i 0)
  | 0,i=>LQ.lit (z:=0) kD
  | n + 1,i=>by
    show LQ 1 ((rowq zs n++[_]).getD i 0)
    rw[getD_snoc]
    split
    · exact rowq_lq zs n i
    · split
      · split
        · exact LQ.hand _
        · exact LQ.lit (z:=0) kD
      · exact LQ.lit (z:=0) kD
theorem rqOk {h:Hp}{A D:Option Addr}{c d:Nat}{q:Rat}(h1:(lim (iabs q.num)).length≤c)(h2:(lim q.den).length≤d)(h3:SlO 1 u32c 0 h A (lim (iabs q.num)))(h4:SlO 1 u32c 0 h D (lim q.den)):RQ h (rtv ((ineg q.num,.slice A (lim (iabs q.num)).length c,.slice D (lim q.den).length d):RT)) q:=⟨_,_,_,_,rfl,h1,h2,h3,h4⟩
theorem hInRow (A:Option Addr)(cap:Nat)(ts:List RT)(qs:List Rat)(hl:qs.length≤1000000)(hf:∀ i,i<qs.length→LQ 100000000 (qs.getD i 0))(w:World)(h:Hp)(g:G w h)(hA:Sr A ts h)(hT:RTs h ts qs)(tb:Tab h):CR 13 #[.slice A ts.length cap] w h (fun v h1=>SlV 5 qc 0 h1 v qs):=by
 have hs:=((((sS g).aS hA).aT hT).aB tb);have hlen:=(hs.f.2.1).len;refine go Tryz.func13 [(0,qS A ts.length cap)] rfl (cSL (lL hs [.v 2 (sZ)] (lNS (lL hs [.v 3 (sZ)] (lN (cQ (cSL (lL hs [.v 4 (iV 0)] (lN (kZ ?_))))))))));replace hs:=hs.nil 55 5;refine cTo [(0,qS A ts.length cap),(2,sZ),(4,iV 0),(3,sZ)] ?_;refine CG.loop (fun μ_ Γ w_=>∃ (k:Nat) (sA:Option Addr) (sc:Nat) (ql:List Rat) (h_:Hp),μ_=qs.length-k∧Γ=[(0,qS A ts.length cap),(2,sZ),(4,nV k),(3,qS sA ((ql).length) sc)]∧SS w h w_ h_ [] [⟨55,5,sA,sc,(ql).length,(ql).flatMap qc⟩] [fun h_=>Tab h_,Rt ts qs,Sr A ts]∧k≤qs.length∧ql=qs.take k) _ ⟨0,none,0,[],h,rfl,rfl,hs.to _ _,Nat.zero_le _,rfl⟩ ?_;rintro _ _ w1 ⟨k,sA,sc,ql,h2,hm3,rfl,hs,hk,hql⟩;have htk:ql.length=k:=by rw[hql];simp;omega
 refine cQ (cSL (lL hs [.m 5 4,.m 6 0,.v 7 (nV ts.length)] ?_));cases hb4:(decide ((k:Int)<(ts.length:Int)))
 ·
  have phb4:=oF hb4;refine lB 8 hb4 (lN (cIF (CG.exit ?_)))
  show CG _ _ _ _ _ _ _ _
  refine cSL (lL hs [.m 19 3,.m 2 19] (lN (kX ?_)));have hkq:ql=qs:=by rw[hql];exact List.take_of_length_le oM
  subst hkq;obtain ⟨h5,hs,hc6⟩:=hs.pubr 0 (A:=sA) (c:=sc) (l:=ql) (f:=qc) (ty:=55) (sz:=5) 0 (fun _=>rfl);exact hs.ret [] (qS sA ((ql).length) sc) (⟨_,_,rfl,hc6,hs.f.1⟩)
 have phb4:=oT hb4;refine lB 8 hb4 (lN (cIT (cK (cQ (kZ (kQ (lL hs [.m 11 3,.m 12 0,.m 13 4] (lX 14 A ts.length cap 3 (k:Nat) k ((hs.f.r.1).ok oM) ?_))))))));refine lH 15 (rA (ts.getD k rqd)) hs ((hs.f.r.1).el k oM) (lC 16 hs (hInV _ (qs.getD k 0) (hf k oM) _ _ hs.g ((hs.f.2.1).at_ k oM) hs.f.1) ?_);rintro _ w8 h9 hs rfl;refine lR 17 55 1 (qc (qs.getD k 0)) hs (fun za _ _ hs=>lY 18 0 55 5 sc sA ql qc (qs.getD k 0) 56 za (.agg #[qF,uV 0,eS,uV 0,eS]) hs hs.f.1 (fun zb zc _ zd hs=>lL hs [.m 3 18] (lN (kQ (lL hs [.m 9 4] (lIn 10 ((k:Nat)+1) (k+1) ?_))))));refine lL hs [.m 4 10] (lD ?_);intro a_ ka;replace hs:=hs.tl;refine ⟨_,_,?_,⟨k+1,zb,zc,ql++[qs.getD k 0],zd,rfl,rfl,hs.to _ _,oM,(by rw[take_snoc' 0 oM,hql])⟩,ka.to _ kR⟩
 omega
theorem hRow (A:Option Addr)(cap:Nat)(zs:List Int)(n:Nat)(hn:n≤1000000)(hl:zs.length≤9223372036854775807)(hz:I64s zs)(w:World)(h:Hp)(g:G w h)(hA:Si A zs h):CR 21 #[.slice A zs.length cap,nV n] w h (fun v h1=>∃ A c,∃ ts:List RT,v=.slice A ts.length c∧ts.length≤c∧Sr A ts h1∧RTs h1 ts (rowq zs n)):=by
 have hs:=((sS g).aS hA);refine go Tryz.func21 [(0,qS A zs.length cap),(1,nV n)] rfl (cSL (lL hs [.v 4 (sZ)] (lNS (lL hs [.v 5 (sZ)] (lN (cQ (cSL (lL hs [.v 6 (iV 0)] (lN (kZ ?_))))))))));replace hs:=hs.nil 97 3;refine cTo [(0,qS A zs.length cap),(1,nV n),(4,sZ),(6,iV 0),(5,sZ)] ?_;replace hs:=hs.aT (RTs.nil);refine CG.loop (fun μ_ Γ w_=>∃ (k:Nat) (sA:Option Addr) (sc:Nat) (ts:List RT) (h_:Hp),μ_=n-k∧Γ=[(0,qS A zs.length cap),(1,nV n),(4,sZ),(6,nV k),(5,qS sA ((ts).length) sc)]∧SS w h w_ h_ [] [⟨97,3,sA,sc,(ts).length,(ts).flatMap rqc⟩] [Rt ts (rowq zs k),Si A zs]∧k≤n) _ ⟨0,none,0,[],h,rfl,rfl,hs.to _ _,Nat.zero_le _⟩ ?_;rintro _ _ w1 ⟨k,sA,sc,ts,h2,hm3,rfl,hs,hk⟩;have hlT:=(hs.f.1).len;rw[rowq_len] at hlT
 refine cQ (cSL (lL hs [.m 7 6,.m 8 1] ?_));cases hb4:(decide ((k:Int)<(n:Int)))
 ·
  have phb4:=oF hb4;refine lB 9 hb4 (lN (cIF (CG.exit ?_)))
  show CG _ _ _ _ _ _ _ _
  refine cSL (lL hs [.m 28 5,.m 4 28] (lN (kX ?_)));have hkq:k=n:=by omega
  subst hkq;obtain ⟨h5,hs,hc6⟩:=hs.pubr 0 (A:=sA) (c:=sc) (l:=ts) (f:=rqc) (ty:=97) (sz:=3) rqd (fun _=>rfl);exact hs.ret [] (qS sA ((ts).length) sc) (⟨_,_,ts,rfl,hc6,hs.f.1,hs.f.2.1⟩)
 have phb4:=oT hb4;refine lB 9 hb4 (lN (cIT (cK (cQ (kZ (cSL (lL hs [.m 12 6,.m 13 0,.v 14 (nV zs.length)] ?_)))))));cases hb8:(decide ((k:Int)<(zs.length:Int)))
 ·
  have phb8:=oF hb8;refine lB 15 hb8 (lN (cIF (kQ (lL hs [.m 24 5] (lC 25 hs (rOf 0 oM oM _ _ hs.g) ?_)))));rintro _ _ _ hs ⟨A9,za,zb,zc,rfl,zi,zj,zk,zl⟩;replace hs:=hs.aP zk zl;refine lR 26 97 1 (rqx ((0:Int):Rat) A9 za zb zc) hs (fun zq _ _ hs=>lY 27 0 97 3 sc sA ts rqc ((ineg ((0:Int):Rat).num,qS A9 ((lim (iabs ((0:Int):Rat).num)).length) za,qS zb ((lim ((0:Int):Rat).den).length) zc):RT) 56 zq (.agg #[qF,sZ,sZ]) hs hs.f.1 (fun zr zt _ zu hs=>lL hs [.m 5 27] (lN (kQ (lL hs [.m 10 6] (lIn 11 ((k:Nat)+1) (k+1) ?_))))));refine lL hs [.m 6 11] (lD ?_);intro a_ ka;replace hs:=(hs.tl.tl.tl.tl.add (K:=Rt (ts++[((ineg ((0:Int):Rat).num,qS A9 ((lim (iabs ((0:Int):Rat).num)).length) za,qS zb ((lim ((0:Int):Rat).den).length) zc):RT)]) (rowq zs (k+1))) (rowq_step ((if_neg oM).trans (show (0:Rat)=((0:Int):Rat) from rfl)) (RTs.snoc hs.f.r.2.1 (rqOk zi zj hs.f.r.1 hs.f.2.1))));refine ⟨_,_,?_,⟨k+1,zr,zt,ts++[((ineg ((0:Int):Rat).num,qS A9 ((lim (iabs ((0:Int):Rat).num)).length) za,qS zb ((lim ((0:Int):Rat).den).length) zc):RT)],zu,rfl,rfl,hs.to _ _,oM⟩,ka.to _ kR⟩
  omega
 have phb8:=oT hb8;refine lB 15 hb8 (lN (cIT (kQ (lL hs [.m 16 5,.m 17 0,.m 18 6] (lX 19 A zs.length cap 1 (k:Nat) k ((hs.f.2.1).ok oM) ?_)))));refine lH 20 (iV (zs.getD k 0)) hs ((hs.f.2.1).el k oM) (lC 21 hs (hR (zs.getD k 0) (hz k).1 (hz k).2 _ _ hs.g) ?_);rintro _ _ _ hs ⟨zd,ze,zf,zg,rfl,zm,zn,zo,zp⟩;replace hs:=hs.aP zo zp;refine lR 22 97 1 (rqx (handRq (zs.getD k 0)) zd ze zf zg) hs (fun zv _ _ hs=>lY 23 0 97 3 sc sA ts rqc ((ineg (handRq (zs.getD k 0)).num,qS zd ((lim (iabs (handRq (zs.getD k 0)).num)).length) ze,qS zf ((lim (handRq (zs.getD k 0)).den).length) zg):RT) 56 zv (.agg #[qF,sZ,sZ]) hs hs.f.1 (fun zw zx _ zA hs=>lL hs [.m 5 23] (lN (kQ (lL hs [.m 10 6] (lIn 11 ((k:Nat)+1) (k+1) ?_))))));refine lL hs [.m 6 11] (lD ?_);intro a_ ka;replace hs:=(hs.tl.tl.tl.tl.aT (rowq_step (if_pos oM) (RTs.snoc hs.f.r.2.1 (rqOk zm zn hs.f.r.1 hs.f.2.1))));refine ⟨_,_,?_,⟨k+1,zw,zx,ts++[((ineg (handRq (zs.getD k 0)).num,qS zd ((lim (iabs (handRq (zs.getD k 0)).num)).length) ze,qS zf ((lim (handRq (zs.getD k 0)).den).length) zg):RT)],zA,rfl,rfl,hs.to _ _,oM⟩,ka.to _ kR⟩
 omega
theorem hInRows (A:Option Addr)(cap:Nat)(vs:List Value)(qss:List (List Rat))(hl:qss.length≤1000000)(hls:∀ i,i<qss.length→(qss.getD i []).length≤1000000)(hf:∀ i,i<qss.length→∀ j,j<(qss.getD i []).length→LQ 100000000 ((qss.getD i []).getD j 0))(w:World)(h:Hp)(g:G w h)(hA:Sv A vs h)(hT:RVs h vs qss)(tb:Tab h):CR 30 #[.slice A vs.length cap] w h (fun v h1=>∃ A c,∃ us:List Value,v=.slice A us.length c∧us.length≤c∧Sv A us h1∧QVs h1 us qss):=by
 have hs:=((((sS g).aS hA).aV hT).aB tb);have hlen:=(hs.f.2.1).len;refine go Tryz.func30 [(0,qS A vs.length cap)] rfl (cSL (lL hs [.v 2 (sZ)] (lNS (lL hs [.v 3 (sZ)] (lN (cQ (cSL (lL hs [.v 4 (iV 0)] (lN (kZ ?_))))))))));replace hs:=hs.nil 30 1;refine cTo [(0,qS A vs.length cap),(2,sZ),(4,iV 0),(3,sZ)] ?_;replace hs:=hs.aQ (QVs.nil);refine CG.loop (fun μ_ Γ w_=>∃ (k:Nat) (sA:Option Addr) (sc:Nat) (us:List Value) (h_:Hp),μ_=qss.length-k∧Γ=[(0,qS A vs.length cap),(2,sZ),(4,nV k),(3,qS sA ((us).length) sc)]∧SS w h w_ h_ [] [⟨30,1,sA,sc,(us).length,(us).flatMap vc⟩] [Qu us (qss.take k),fun h_=>Tab h_,Ru vs qss,Sv A vs]∧k≤qss.length) _ ⟨0,none,0,[],h,rfl,rfl,hs.to _ _,Nat.zero_le _⟩ ?_;rintro _ _ w1 ⟨k,sA,sc,us,h2,hm3,rfl,hs,hk⟩;have hlU:=(hs.f.1).len;have htk:(qss.take k).length=k:=by simp;omega
 refine cQ (cSL (lL hs [.m 5 4,.m 6 0,.v 7 (nV vs.length)] ?_));cases hb4:(decide ((k:Int)<(vs.length:Int)))
 ·
  have phb4:=oF hb4;refine lB 8 hb4 (lN (cIF (CG.exit ?_)))
  show CG _ _ _ _ _ _ _ _
  refine cSL (lL hs [.m 19 3,.m 2 19] (lN (kX ?_)));have hkq:qss.take k=qss:=List.take_of_length_le oM;rw[hkq] at hs
  obtain ⟨h5,hs,hc6⟩:=hs.pubr 0 (A:=sA) (c:=sc) (l:=us) (f:=vc) (ty:=30) (sz:=1) undef (fun _=>rfl);exact hs.ret [] (qS sA ((us).length) sc) (⟨_,_,us,rfl,hc6,hs.f.1,hs.f.2.1⟩)
 have phb4:=oT hb4;refine lB 8 hb4 (lN (cIT (cK (cQ (kZ (kQ (lL hs [.m 11 3,.m 12 0,.m 13 4] (lX 14 A vs.length cap 1 (k:Nat) k ((hs.f.r.2.1).ok oM) ?_))))))));obtain ⟨Arx,crx,trx,erx,hcrx,hRrx,hTrx⟩:=(hs.f.r.1).at_ k oM;have hlrx:=hTrx.len;replace hs:=((hs.aS hRrx).aT hTrx);refine lHe 15 (vs.getD k undef) hs ((hs.f.q.2.1).el k oM) erx (lC 16 hs (hInRow Arx crx trx (qss.getD k []) (hls k oM) (hf k oM) _ _ hs.g hs.f.2.1 hs.f.1 hs.f.r.2.1) ?_);rintro _ w8 h9 hs ⟨Au,cu,rfl,hcu,hAu⟩;replace hs:=hs.aS hAu;refine lR 17 30 1 ([qS Au ((qss.getD k []).length) cu]) hs (fun za _ _ hs=>lY 18 0 30 1 sc sA us vc (qS Au ((qss.getD k []).length) cu:Value) 24 za (sZ) hs hs.f.1 (fun zb zc _ zd hs=>lL hs [.m 3 18] (lN (kQ (lL hs [.m 9 4] (lIn 10 ((k:Nat)+1) (k+1) ?_))))));refine lL hs [.m 4 10] (lD ?_);intro a_ ka;replace hs:=(hs.tl.tl.tl.tl.tl.add (K:=Qu (us++[(qS Au ((qss.getD k []).length) cu:Value)]) (qss.take (k+1))) (by rw[take_snoc' [] oM];exact (hs.f.q.1).snoc ⟨Au,cu,rfl,hcu,hs.f.2.1⟩));refine ⟨_,_,?_,⟨k+1,zb,zc,us++[(qS Au ((qss.getD k []).length) cu:Value)],zd,rfl,rfl,hs.to _ _,oM⟩,ka.to _ kR⟩
 omega
def maxR (a b:Rat):Rat:=if a<b then b else a
theorem LQ.maxR {k:Nat}{a b:Rat}(ha:LQ k a)(hb:LQ k b):LQ k (maxR a b):=by unfold Go.Proofs.YtmkcmnhnmajheaaGreatDoor.maxR;split;exact hb;exact ha
theorem fAbs (a:Rat)(ha:LQ 100000000 a)(w:World)(h:Hp)(g:G w h):CV 116 #[qv a] w h (qv (qabs a)):=by
 have hs:=sS g;refine go Tryz.func116 [(0,qv a)] rfl (cSL (lA 1 55 (qc a) hs (fun b1 w2 h3 hs=>lA 2 55 ([qF,uV 0,eS,uV 0,eS]) hs (fun b4 w5 h6 hs=>lN (cQ (cR 7 [] mixed hs al_nil ?_))))));refine eV 0 3 (pB b1) (eO 1 4 [(1,0,3)] (iv a.num) hs (eV 4 7 (qP b1 3) (eO 5 8 [(1,3,2)] (nv (qd a)) hs (eC 2 5 hs (fun _ _ hs=>wAbs a.num _ _ hs.g) ?_))));rintro _ _ _ w7 h8 hs rfl;refine eC 3 6 hs (fun _ _ hs=>wFromN (iabs a.num) _ _ hs.g) ?_;rintro _ _ _ w9 _ hs rfl;exact eV 6 9 (.agg #[.bool (ineg (((iabs a.num):Nat):Int)),uV (lo (iabs (((iabs a.num):Nat):Int))),.string (hi (iabs (((iabs a.num):Nat):Int))),uV (lo (qd a)),.string (hi (qd a))]) (eD0 hs (fun _ _ hs=>tP 7 0 0 ([.bool (ineg (((iabs a.num):Nat):Int)),uV (lo (iabs (((iabs a.num):Nat):Int))),.string (hi (iabs (((iabs a.num):Nat):Int))),uV (lo (qd a)),.string (hi (qd a))]) hs (fun _ hs=>tN (kX (hs.ret [(0,0,5)] (.agg #[.bool (ineg (((iabs a.num):Nat):Int)),uV (lo (iabs (((iabs a.num):Nat):Int))),.string (hi (iabs (((iabs a.num):Nat):Int))),uV (lo (qd a)),.string (hi (qd a))]) (qv_lit (qabs_num a) (by unfold qd;rw[qabs_den])))))))
theorem fDot (A:Option Addr)(ca:Nat)(a:List Rat)(D:Option Addr)(cd:Nat)(b:List Rat)(K L:Nat)(hl:a.length=b.length)(hn:a.length≤1000000)(hb:a.length*(K+L+1)+K+L+2≤100000000)(ha:∀ i,i<a.length→LQ K (a.getD i 0))(hbb:∀ i,i<a.length→LQ L (b.getD i 0))(w:World)(h:Hp)(g:G w h)(hA:Sq A a h)(hD:Sq D b h)(tb:Tab h):CV 22 #[.slice A a.length ca,.slice D b.length cd] w h (.tuple #[qv (dotq a b a.length),.bool true]):=by
 have hs:=((((sS g).aS hA).aS hD).aB tb);refine go Tryz.func22 [(0,qS A a.length ca),(1,qS D b.length cd)] rfl (cSL (lA 4 55 ([qF,uV 0,eS,uV 0,eS]) hs (fun b1 w2 h3 hs=>lL hs [.v 5 qF] (lN (cQ (cSL (lL hs [.m 9 0,.v 10 (nV a.length),.m 11 1,.v 12 (nV b.length)] ?_)))))));have hb4:((a.length:Int) != (b.length:Int))=false:=bneF oM;have phb4:=eqOfBne hb4;refine lB 13 hb4 (lN (cIF (cK (cSL (lA 6 55 ([qF,uV 0,eS,uV 0,eS]) hs (fun b5 w6 h7 hs=>lN (cQ (cSL (lL hs [.m 15 0,.v 16 (nV a.length),.v 17 (iV 0)] (lN (kZ ?_)))))))))));refine cTo _ (CG.loop (fun μ_ Γ w_=>∃ (k:Nat) (h_:Hp),μ_=a.length-k∧Γ=[(1,qS D b.length cd),(4,pB b1),(5,qF),(6,pB b5),(15,qS A a.length ca),(16,nV a.length),(17,nV k)]∧SS w h w_ h_ [⟨b5,55,qc (dotq a b k)⟩,⟨b1,55,[qF,uV 0,eS,uV 0,eS]⟩] [] [fun h_=>Tab h_,Sq D b,Sq A a]∧k≤a.length) _ ⟨0,h7,rfl,rfl,hs.to _ _,Nat.zero_le _⟩ ?_);rintro _ _ w8 ⟨k,h9,hm10,rfl,hs,hk⟩;have hmk:k*(K+L+1)≤a.length*(K+L+1):=Nat.mul_le_mul_right _ hk;have hdk:LQ (100000000-K-L-1) (dotq a b k):=(LQ.dot ha hbb k hk).mono oM;refine cSL ?_;cases za:(decide ((k:Int)<(a.length:Int)))
 ·
  have zc:=oF za;refine lB 18 za (lN (cQ (cIF (CG.exit ?_))))
  show CG _ _ _ _ _ _ _ _
  exact cSL (lL hs [.o 31 (qv (dotq a b k)) 0 0 5] (lP 1 0 (qc (dotq a b k)) hs (fun _ hs=>lL hs [.v 5 qT] (lN (kX (hs.ret [(1,0,5)] (.tuple #[qv (dotq a b k),qT]) (by rw[show a.length=k by omega])))))))
 have zc:=oT za;refine lB 18 za (lN (cQ (cIT (cK (cQ (kZ (cSL (lL hs [.m 19 17] (lX 20 A a.length ca 5 (k:Nat) k ((hs.f.r.1).ok oM) ?_)))))))));refine lH 21 (qv (a.getD k 0)) hs ((hs.f.r.1).el k oM) (lA 8 55 ([qF,uV 0,eS,uV 0,eS]) hs (fun b13 _ _ hs=>lL hs [.m 7 19] (lP 0 0 (qc (a.getD k 0)) hs (fun _ hs=>lN (cR 8 [] mixed hs al_nil ?_)))));refine eO 0 22 [(1,0,5)] (qv (dotq a b k)) hs (eO 1 23 [(0,0,5)] (qv (a.getD k 0)) hs (eV 2 24 (qS D b.length cd) (eV 3 25 (nV k) (eX 4 26 D b.length cd 5 (k:Nat) k ((hs.f.2.1).ok oM) (eH 5 27 (qv (b.getD k 0)) hs ((hs.f.2.1).el k oM) ?_)))));have zb:=LQ.mul (ha k oM) (hbb k oM);refine eC 6 28 hs (fun _ _ hs=>fMul (a.getD k 0) (b.getD k 0) (LQ.mono (ha k oM) oM) (LQ.mono (hbb k oM) oM) _ _ hs.g hs.f.1) ?_;rintro _ _ _ _ _ hs rfl;have hq20:=LQ.add hdk zb;refine eC 7 29 hs (fun _ _ hs=>fAdd (dotq a b k) ((a.getD k 0)*(b.getD k 0)) (LQ.mono hdk oM) (LQ.mono zb oM) _ _ hs.g hs.f.1) ?_;rintro _ _ _ _ _ hs rfl;refine eD0 hs (fun _ zd hs=>tP 8 1 0 (qc ((dotq a b k)+((a.getD k 0)*(b.getD k 0)))) hs (fun _ hs=>tN (kQ (lIn 30 ((k:Nat)+1) (k+1) ?_))));refine lL hs [.m 17 30] (lD ?_);intro a_ ka;replace hs:=hs.drop 1 0;refine ⟨_,_,?_,⟨k+1,zd,rfl,rfl,hs.to _ _,oM⟩,ka.to _ kR⟩
 omega
structure Lay where
  k:Int
  W:List (List Rat)
  B:List Rat
def lay0:Lay:=⟨0,[],[]⟩
abbrev LV:=Int × Value × Value
def lvc (t:LV):List Value:=[.int .i64 t.1,t.2.1,t.2.2]
def lvd:LV:=(0,undef,undef)
abbrev Sl (A:Option Addr)(l:List LV):Hp→Prop:=fun h_=>SlO 3 lvc lvd h_ A l
structure NetL (h:Hp) (ts:List LV) (ls:List Lay):Prop where
  len:ts.length=ls.length
  at_:∀ i,i<ls.length→(ts.getD i lvd).1=(ls.getD i lay0).k∧(∃ A c,∃ us:List Value,(ts.getD i lvd).2.1=.slice A us.length c∧us.length≤c∧SlO 1 vc undef h A us∧QVs h us (ls.getD i lay0).W)∧SlV 5 qc 0 h (ts.getD i lvd).2.2 (ls.getD i lay0).B
abbrev Nn (t:List LV)(l:List Lay):Hp→Prop:=fun h_=>NetL h_ t l
theorem NetL.gw {h h':Hp}{ts:List LV}{ls:List Lay}(r:NetL h ts ls)(u:Gw h h'):NetL h' ts ls:=⟨r.len,fun i hi=>by
  obtain ⟨h1,⟨A,c,us,h2,h3,h4,h5⟩,h6⟩:=r.at_ i hi;exact ⟨h1,⟨A,c,us,h2,h3,h4.gw u,h5.gw u⟩,h6.gw u⟩⟩
theorem SS.aN {t:List LV}{l:List Lay}{w0 w:World}{h0 h:Hp}{B:List Bx}{R:List Rw}{F:List (Hp→Prop)}(s:SS w0 h0 w h B R F)(p:NetL h t l):SS w0 h0 w h B R (Nn t l::F):=s.add (K:=Nn t l) p
structure RNetL (h:Hp) (ts:List LV) (ls:List Lay):Prop where
  len:ts.length=ls.length
  at_:∀ i,i<ls.length→(ts.getD i lvd).1=(ls.getD i lay0).k∧(∃ A c,∃ us:List Value,(ts.getD i lvd).2.1=.slice A us.length c∧us.length≤c∧SlO 1 vc undef h A us∧RVs h us (ls.getD i lay0).W) ∧
    (∃ A c,∃ rs:List RT,(ts.getD i lvd).2.2=.slice A rs.length c∧rs.length≤c∧SlO 3 rqc rqd h A rs∧RTs h rs (ls.getD i lay0).B)
abbrev Rn (t:List LV)(l:List Lay):Hp→Prop:=fun h_=>RNetL h_ t l
theorem RNetL.gw {h h':Hp}{ts:List LV}{ls:List Lay}(r:RNetL h ts ls)(u:Gw h h'):RNetL h' ts ls:=⟨r.len,fun i hi=>by
  obtain ⟨h1,⟨A,c,us,h2,h3,h4,h5⟩,⟨D,e,rs,g2,g3,g4,g5⟩⟩:=r.at_ i hi;exact ⟨h1,⟨A,c,us,h2,h3,h4.gw u,h5.gw u⟩,⟨D,e,rs,g2,g3,g4.gw u,g5.gw u⟩⟩⟩
theorem SS.aM {t:List LV}{l:List Lay}{w0 w:World}{h0 h:Hp}{B:List Bx}{R:List Rw}{F:List (Hp→Prop)}(s:SS w0 h0 w h B R F)(p:RNetL h t l):SS w0 h0 w h B R (Rn t l::F):=s.add (K:=Rn t l) p
theorem NetL.nil {h:Hp}:NetL h [] []:=⟨rfl,fun i hi=>by simp at hi⟩
theorem RNetL.nil {h:Hp}:RNetL h [] []:=⟨rfl,fun i hi=>by simp at hi⟩
theorem NetL.snoc {h:Hp}{ts:List LV}{ls:List Lay}(r:NetL h ts ls){t:LV}{L:Lay}(hx:t.1=L.k∧(∃ A c,∃ us:List Value,t.2.1=.slice A us.length c∧us.length≤c∧SlO 1 vc undef h A us∧QVs h us L.W)∧SlV 5 qc 0 h t.2.2 L.B):NetL h (ts++[t]) (ls++[L]):=by
  refine ⟨by simp[r.len],fun i hi=>?_⟩;rw[getD_snoc,getD_snoc,r.len]
  split
  · rename_i h1;exact r.at_ i h1
  · rename_i h1
    have:i=ls.length:=by simp at hi;omega
    rw[if_pos this,if_pos this];exact hx
theorem RNetL.snoc {h:Hp}{ts:List LV}{ls:List Lay}(r:RNetL h ts ls){t:LV}{L:Lay}(hx:t.1=L.k∧(∃ A c,∃ us:List Value,t.2.1=.slice A us.length c∧us.length≤c∧SlO 1 vc undef h A us∧RVs h us L.W) ∧
    (∃ A c,∃ rs:List RT,t.2.2=.slice A rs.length c∧rs.length≤c∧SlO 3 rqc rqd h A rs∧RTs h rs L.B)):RNetL h (ts++[t]) (ls++[L]):=by
  refine ⟨by simp[r.len],fun i hi=>?_⟩;rw[getD_snoc,getD_snoc,r.len]
  split
  · rename_i h1;exact r.at_ i h1
  · rename_i h1
    have:i=ls.length:=by simp at hi;omega
    rw[if_pos this,if_pos this];exact hx
def natc (n:Nat):List Value:=[.int .i64 (n:Int)]
abbrev Sn (A:Option Addr)(l:List Nat):Hp→Prop:=fun h_=>SlO 1 natc 0 h_ A l
def netSizes (i m o:Int):List Nat:=if 0<pick m 4 then [pick i 3+1,pick m 4,pick o 3+1] else [pick i 3+1,pick o 3+1]
def kindAt (k:Int):Nat→Int
  | 0=>k
  | n+1=>(kindAt k n).tdiv 3
theorem kindAt_bd {k:Int}(h : -9223372036854775808≤k∧k≤9223372036854775807)(n:Nat) : -9223372036854775808≤(kindAt k n).tdiv 3∧(kindAt k n).tdiv 3≤9223372036854775807:=by
  induction n with
  | zero=>exact tdiv_bd k 3 oM h.1 h.2
  | succ n ih=>exact tdiv_bd _ 3 oM ih.1 ih.2
def Smalls (l:List Rat):Prop:=∀ q∈l,∃ z,q=smallq z
theorem Smalls.snoc {l:List Rat}(h:Smalls l)(z:Int):Smalls (l++[smallq z]):=fun q hq=>by
  rcases List.mem_append.1 hq with h1|h1
  · exact h q h1
  · exact ⟨z,List.mem_singleton.1 h1⟩
theorem rows_snoc {Wl:List (List Rat)}{n:Nat}(h:∀ r∈Wl,r.length=n∧Smalls r){q:List Rat}(hl:q.length=n)(hq:Smalls q):∀ r∈Wl++[q],r.length=n∧Smalls r:=fun r hr=>by
  rcases List.mem_append.1 hr with h1|h1
  · exact h r h1
  · rw[List.mem_singleton.1 h1];exact ⟨hl,hq⟩
structure LayMk (L:Lay) (kq:Nat) (r c:Nat):Prop where
  k:L.k=(kq:Int)
  rows:L.W.length=r
  row:∀ q∈L.W,q.length=c∧Smalls q
  bl:L.B.length=r
  bs:Smalls L.B
theorem mk_snoc {ls:List Lay}{L:Lay}{f g e:Nat→Nat}(h:∀ i,i<ls.length→LayMk (ls.getD i lay0) (f i) (g i) (e i))(hL:LayMk L (f ls.length) (g ls.length) (e ls.length)):∀ i,i<(ls++[L]).length→LayMk ((ls++[L]).getD i lay0) (f i) (g i) (e i):=by
  intro i hi;rw[getD_snoc]
  split
  · rename_i h1;exact h i h1
  · rename_i h1
    have:i=ls.length:=by simp at hi;omega
    rw[if_pos this,this];exact hL
theorem sizes_len (i m o:Int):(netSizes i m o).length=2∨(netSizes i m o).length=3:=by unfold netSizes;split<;>simp
theorem sizes_le (i m o:Int)(k:Nat):(netSizes i m o).getD k 0≤4:=by
  have h1:=pick_lt i 3 oM;have h2:=pick_lt m 4 oM;have h3:=pick_lt o 3 oM
  unfold netSizes
  split<;>(rcases k with _|_|_|k<;>simp<;>omega)
theorem sizes_pos (i m o:Int)(k:Nat)(hk:k<(netSizes i m o).length):0<(netSizes i m o).getD k 0:=by
  unfold netSizes at *
  split at hk
  · rename_i h;rw[if_pos h];rcases k with _|_|_|k<;>simp at hk ⊢ <;> omega
  · rename_i h;rw[if_neg h];rcases k with _|_|k<;>simp at hk ⊢ <;> omega
theorem rNext (A:Option Addr)(cap:Nat)(zs:List Int)(hl:zs.length≤9223372036854775807)(hz:I64s zs)(rbk at_:Nat)(ha:at_≤zs.length)(w:World)(h:Hp)(g:G w h)(ho:Own w rbk 103 [.slice A zs.length cap,nV at_])(hj:h[rbk]?=some junk)(hA:Si A zs h):Calls Tryz.prog 42 #[pB rbk] w (RetM rbk w h fun v w' _=>∃ (z:Int) (at2:Nat),v=iV z∧at2≤zs.length∧(-9223372036854775808≤z∧z≤9223372036854775807)∧Own w' rbk 103 [.slice A zs.length cap,nV at2]):=by
 have hmo:UpM [rbk] w h w h:=UpM.refl g;obtain ⟨wz,hz0_,hs⟩:=SS.at_ g ho hj;replace hs:=hs.aS hA;refine go Tryz.func42 [(0,pB rbk)] rfl (cSL (lL hs [.v 2 (iV 0)] (lN (cQ (cQ (cR 10 [] mixed hs al_nil ?_))))));refine eV 0 3 (pB rbk) (eV 1 4 (pB rbk) (eV 2 5 (qP rbk 1) (eO 3 6 [(0,1,1)] (nV at_) hs (eV 4 7 (pB rbk) (eV 5 8 (pB rbk) (eV 6 9 (pB rbk) (eO 7 10 [(0,0,1)] (qS A zs.length cap) hs (eV 8 11 (nV zs.length) ?_))))))));cases hb1:(decide ((zs.length:Int)≤(at_:Int)))
 ·
  have phb1:=oF hb1;refine eB 9 12 hb1 (eD0u hs (fun w2 h3 u4 hs=>?_));replace hmo:=hmo.trans (u4.m _);refine tN (cIF (cK (cSL (lL hs [.m 13 0,.v 14 (pB rbk),.v 15 (qP rbk 1),.o 16 (nV at_) 0 1 1] (lIn 17 ((at_:Nat)+1) (at_+1) ?_)))));refine lL hs [.v 18 (pB rbk),.v 19 (qP rbk 1)] (lPu 0 1 ([nV (at_+1)]) hs (fun w5 pu hs=>?_));replace hmo:=hmo.put pu (List.mem_singleton.2 rfl) hs.g;refine lN (cQ (cR 11 [] mixed hs al_nil ?_));refine eV 0 20 (pB rbk) (eV 1 21 (pB rbk) (eV 2 22 (pB rbk) (eO 3 23 [(0,0,1)] (qS A zs.length cap) hs (eV 4 24 (pB rbk) (eV 5 25 (pB rbk) (eV 6 26 (qP rbk 1) (eO 7 27 [(0,1,1)] (nV (at_+1)) hs (eIn 8 28 ((at_+1:Nat)-1) ((at_+1)-1) (eX 9 29 A zs.length cap 1 ((at_+1)-1:Nat) ((at_+1)-1) ((hs.f.1).ok oM) (eH 10 30 (iV (zs.getD ((at_+1)-1) 0)) hs ((hs.f.1).el ((at_+1)-1) oM) (eD0u hs (fun w6 h7 u8 hs=>?_))))))))))));replace hmo:=hmo.trans (u8.m _);exact tV 11 2 (iV (zs.getD ((at_+1)-1) 0)) (tN (kX (hs.retM hmo [] (iV (zs.getD ((at_+1)-1) 0)) ⟨zs.getD ((at_+1)-1) 0,(at_+1),rfl,by omega,hz _,hs.own 0⟩)))
 have phb1:=oT hb1;refine eB 9 12 hb1 (eD0u hs (fun w9 _ u11 hs=>?_));replace hmo:=hmo.trans (u11.m _);exact tN (cIT (cSL (lL hs [.v 2 (iV 0)] (lN (kX (hs.retM hmo [] (iV 0) ⟨0,at_,rfl,by omega,⟨by decide,by decide⟩,hs.own 0⟩))))))
theorem mNet (A:Option Addr)(cap:Nat)(zs:List Int)(hl:zs.length≤9223372036854775807)(hz:I64s zs)(i_ m_ o_ kd:Int)(hkd : -9223372036854775808≤kd∧kd≤9223372036854775807)(w:World)(h:Hp)(g:G w h)(hA:Si A zs h):CR 26 #[.slice A zs.length cap,iV i_,iV m_,iV o_,iV kd] w h (fun v h1=>∃ A c,∃ us:List LV,∃ ls:List Lay,v=.agg #[.slice A us.length c]∧us.length≤c∧Sl A us h1∧RNetL h1 us ls∧ls.length+1=(netSizes i_ m_ o_).length∧∀ i,i<ls.length→LayMk (ls.getD i lay0) (pick (kindAt kd i) 3+1:Nat) ((netSizes i_ m_ o_).getD (i+1) 0) ((netSizes i_ m_ o_).getD i 0)):=by
 have hs:=((sS g).aS hA);refine go Tryz.func26 [(0,qS A zs.length cap),(1,iV i_),(2,iV m_),(3,iV o_),(4,iV kd)] rfl (cSL (lA 10 63 ([sZ]) hs (fun b1 w2 h3 hs=>lNS (lL hs [.m 20 0,.v 21 (.agg #[qS A zs.length cap,iV 0])] (lA 22 103 ([qS A zs.length cap,iV 0]) hs (fun b4 w5 h6 hs=>lL hs [.m 11 22] (lNS (lL hs [.m 23 1] (lC 24 hs (hPick (i_) 3 oM oM _ _ hs.g) ?_)))))))));rintro _ w8 h9 hs rfl;have lp7:=pick_lt (i_) 3 oM;refine lIn 25 ((pick (i_) 3:Nat)+1) ((pick (i_) 3)+1) (lL hs [.m 26 3] (lC 27 hs (hPick (o_) 3 oM oM _ _ hs.g) ?_));rintro _ _ _ hs rfl;have lp10:=pick_lt (o_) 3 oM;refine lIn 28 ((pick (o_) 3:Nat)+1) ((pick (o_) 3)+1) (lR 29 3 2 ([nV ((pick (i_) 3)+1),nV ((pick (o_) 3)+1)]) hs (fun za _ _ hs=>?_));obtain ⟨S17,hSe18⟩:∃ S:List Nat,S=[((pick (i_) 3)+1:Nat),((pick (o_) 3)+1:Nat)]:=⟨_,rfl⟩;have S17_l:S17.length=2:=by rw[hSe18];rfl
 replace hs:=hs.aS (SlO.of_flat (sz:=1) (f:=natc) (d:=0) (l:=S17) (fun _=>rfl) (by rw[hSe18];exact hs.f.1));refine lL hs [.m 12 29] (lN (CG.join (fun Γ w_=>∃ (Az:Option Addr) (S:List Nat) (nS:Nat) (h_:Hp),Γ=[(4,iV kd),(10,pB b1),(11,pB b4),(12,qS Az nS nS)]∧SS w h w_ h_ [⟨b4,103,[qS A zs.length cap,iV 0]⟩,⟨b1,63,[sZ]⟩] [] [Sn Az S,Sn (sB za) S17,fun h_=>Seg h_ za 0 ([nV ((pick (i_) 3)+1),nV ((pick (o_) 3)+1)]),Si A zs]∧S=netSizes i_ m_ o_∧S.length=nS) ?_ ?_))
 ·
  refine cSL (lL hs [.m 30 2] (lC 31 hs (hPick (m_) 4 oM oM _ _ hs.g) ?_));rintro _ _ yc hs rfl;have lp20:=pick_lt (m_) 4 oM;refine lL hs [.m 13 31] (lNS (lL hs [.m 32 13] ?_));cases zi:(decide ((0:Int)<((pick (m_) 4:Nat):Int)))
  ·
   have zv:=oF zi;refine lB 33 zi (lN (cIF (CG.skip ?_)));intro a_ ka;replace hs:=hs.aS hs.f.1;exact ⟨_,⟨sB za,S17,2,yc,rfl,hs.to _ _,(by rw[hSe18];unfold netSizes;rw[if_neg oM]),S17_l⟩,ka.to _ kR⟩
  have zv:=oT zi;refine lB 33 zi (lN (cIT (cR 8 [] mixed hs al_nil ?_)));refine eV 0 34 (qS (sB za) 2 2) (eX 1 35 (sB za) 2 2 1 0 0 ((hs.f.1).ok oM) (eH 2 36 (nV (S17.getD 0 0)) hs ((hs.f.1).el 0 oM) (eV 3 37 (nV (pick (m_) 4)) (eV 4 38 (qS (sB za) 2 2) (eX 5 39 (sB za) 2 2 1 1 1 ((hs.f.1).ok oM) (eH 6 40 (nV (S17.getD 1 0)) hs ((hs.f.1).el 1 oM) (eR 7 41 3 3 ([nV (S17.getD 0 0),nV (pick (m_) 4),nV (S17.getD 1 0)]) hs (fun zK _ _ hs=>?_))))))));obtain ⟨S31,hSe32⟩:∃ S:List Nat,S=[(S17.getD 0 0),(pick (m_) 4),(S17.getD 1 0)]:=⟨_,rfl⟩;have S31_l:S31.length=3:=by rw[hSe32];rfl
  replace hs:=hs.aS (SlO.of_flat (sz:=1) (f:=natc) (d:=0) (l:=S31) (fun _=>rfl) (by rw[hSe32];exact hs.f.1));refine eD0 hs (fun _ yd hs=>tV 8 12 (qS (sB zK) 3 3) (tD ?_));intro a_ ka;replace hs:=(hs.tl.tl.aS hs.f.1);exact ⟨_,⟨sB zK,S31,3,yd,rfl,hs.to _ _,(by rw[hSe32];unfold netSizes;rw[if_pos oM];simp only[hSe18];rfl),S31_l⟩,ka.to _ kR⟩
 rintro _ _ ⟨Az,S,nS,_,rfl,hs,hSS,hnS⟩;have hSl:2≤S.length∧S.length≤3:=by have:=sizes_len i_ m_ o_;rw[←hSS] at this;omega
 have hSb:∀ i,S.getD i 0≤4:=fun i=>by rw[hSS];exact sizes_le i_ m_ o_ i
 refine cSL (lA 14 63 ([sZ]) hs (fun zb _ ye hs=>lN (cQ (cSL (lL hs [.v 15 (iV 1)] (lN (kZ ?_)))))));replace hs:=hs.nil 134 3;refine cTo [(10,pB b1),(11,pB b4),(12,qS Az nS nS),(14,pB zb),(15,iV 1),(4,iV kd)] ?_;replace hs:=hs.aM (RNetL.nil);refine CG.loop (fun μ_ Γ w_=>∃ (k:Nat) (sA:Option Addr) (sc:Nat) (us:List LV) (ls:List Lay) (at1:Nat) (h_:Hp),μ_=S.length-k∧Γ=[(10,pB b1),(11,pB b4),(12,qS Az nS nS),(14,pB zb),(15,nV (k+1)),(4,iV (kindAt kd k))]∧SS w h w_ h_ [⟨zb,63,[qS sA ((us).length) sc]⟩,⟨b4,103,[qS A zs.length cap,nV at1]⟩,⟨b1,63,[sZ]⟩] [⟨134,3,sA,sc,(us).length,(us).flatMap lvc⟩] [Rn us ls,Sn Az S,Sn (sB za) S17,fun h_=>Seg h_ za 0 ([nV ((pick (i_) 3)+1),nV ((pick (o_) 3)+1)]),Si A zs]∧k+1≤S.length∧ls.length=k∧at1≤zs.length∧(∀ i,i<ls.length→LayMk (ls.getD i lay0) (pick (kindAt kd i) 3+1:Nat) (S.getD (i+1) 0) (S.getD i 0))) _ ⟨0,none,0,[],[],0,ye,rfl,rfl,hs.to _ _,by omega,rfl,Nat.zero_le _,fun i hi=>by simp at hi⟩ ?_;rintro _ _ _ ⟨k,sA,sc,us,ls,at1,_,hm46,rfl,hs,hk,hkl,hat1,hMk⟩;have hS0:=hSb k;have hS1:=hSb (k+1);have hlu:=(hs.f.1).len;obtain ⟨tk0,tk1⟩:=kindAt_bd hkd k;refine cQ (cSL (lL hs [.m 42 15,.m 43 12,.v 44 (nV nS)] ?_));cases zj:(decide (((k+1:Nat):Int)<(nS:Int)))
 ·
  have zw:=oF zj;refine lB 45 zj (lN (cIF (CG.exit ?_)))
  show CG _ _ _ _ _ _ _ _
  refine cSL ?_;obtain ⟨_,hs,zN⟩:=hs.pubr 0 (A:=sA) (c:=sc) (l:=us) (f:=lvc) (ty:=134) (sz:=3) lvd (fun _=>rfl);refine lL hs [.o 97 (.agg #[qS sA ((us).length) sc]) 0 0 1] (lP 2 0 ([qS sA ((us).length) sc]) hs (fun _ hs=>lN (kX ?_)));rw[hSS] at hMk
  exact hs.ret [(2,0,1)] (.agg #[qS sA ((us).length) sc]) (⟨_,_,us,ls,rfl,zN,hs.f.1,hs.f.2.1,by rw[←hSS];omega,hMk⟩)
 have zw:=oT zj;refine lB 45 zj (lN (cIT (cK (cQ (kZ (cSL (lL hs [.m 48 4] (lC 49 hs (hPick (kindAt kd k) 3 oM oM _ _ hs.g) ?_))))))));rintro _ _ _ hs rfl;have lp52:=pick_lt (kindAt kd k) 3 oM;refine lIn 50 ((pick (kindAt kd k) 3:Nat)+1) ((pick (kindAt kd k) 3)+1) (lL hs [.v 51 (.agg #[nV ((pick (kindAt kd k) 3)+1),sZ,sZ])] (lA 16 134 ([iV 0,sZ,sZ]) hs (fun zc _ yf hs=>lP 0 0 ([nV ((pick (kindAt kd k) 3)+1),sZ,sZ]) hs (fun _ hs=>lNS (lL hs [.m 52 4] (lV 53 (iV ((kindAt kd k).tdiv 3)) ?_ (hr:=rS (((kindAt kd k).tdiv 3)) kR (fitI64 oM oM))))))));refine lL hs [.m 4 53] (lN (cQ (cSL (lL hs [.v 17 (iV 0)] (lN (kZ ?_))))));replace hs:=hs.nil 97 3;replace hs:=hs.nil 28 1;refine cTo [(10,pB b1),(11,pB b4),(12,qS Az nS nS),(14,pB zb),(15,nV (k+1)),(4,iV ((kindAt kd k).tdiv 3)),(16,pB zc),(17,iV 0)] ?_;replace hs:=hs.aT (RTs.nil);replace hs:=hs.aV (RVs.nil);refine CG.loop (fun μ_ Γ w_=>∃ (j:Nat) (sWA:Option Addr) (sWc:Nat) (Wl:List (List Rat)) (vW:List Value) (sBA:Option Addr) (sBc:Nat) (Bl:List Rat) (tB:List RT) (at2:Nat) (h_:Hp),μ_=S.getD (k+1) 0-j∧Γ=[(10,pB b1),(11,pB b4),(12,qS Az nS nS),(14,pB zb),(15,nV (k+1)),(4,iV ((kindAt kd k).tdiv 3)),(16,pB zc),(17,nV j)]∧SS w h w_ h_ [⟨zc,134,[nV (pick (kindAt kd k) 3+1),qS sWA ((vW).length) sWc,qS sBA ((tB).length) sBc]⟩,⟨zb,63,[qS sA ((us).length) sc]⟩,⟨b4,103,[qS A zs.length cap,nV at2]⟩,⟨b1,63,[sZ]⟩] [⟨28,1,sWA,sWc,(vW).length,(vW).flatMap vc⟩,⟨97,3,sBA,sBc,(tB).length,(tB).flatMap rqc⟩,⟨134,3,sA,sc,(us).length,(us).flatMap lvc⟩] [Ru vW Wl,Rt tB Bl,Rn us ls,Sn Az S,Sn (sB za) S17,fun h_=>Seg h_ za 0 ([nV ((pick (i_) 3)+1),nV ((pick (o_) 3)+1)]),Si A zs]∧j≤S.getD (k+1) 0∧Wl.length=j∧Bl.length=j∧at2≤zs.length∧(∀ r∈Wl,r.length=S.getD k 0∧Smalls r)∧Smalls Bl) _ ⟨0,none,0,[],[],none,0,[],[],at1,yf,rfl,rfl,hs.to _ _,Nat.zero_le _,rfl,rfl,hat1,fun r hr=>by simp at hr,fun r hr=>by simp at hr⟩ ?_;rintro _ _ _ ⟨j,sWA,sWc,Wl,vW,sBA,sBc,Bl,tB,at2,yg,hm61,rfl,hs,hj,hWl,hBl,hat2,hWs,hBs⟩;have hlv:=(hs.f.1).len;have hlt:=(hs.f.2.1).len;refine cQ (cSL (lL hs [.m 54 17,.m 55 12,.m 56 15] (lX 57 Az nS nS 1 (k+1:Nat) (k+1) ((hs.f.r.2.1).ok oM) ?_)));refine lH 58 (nV (S.getD (k+1) 0)) hs ((hs.f.r.2.1).el (k+1) oM) ?_;cases zk:(decide ((j:Int)<((S.getD (k+1) 0:Nat):Int)))
 ·
  have zx:=oF zk;refine lB 59 zk (lN (cIF (CG.exit ?_)))
  show CG _ _ _ _ _ _ _ _
  refine kQ ?_;obtain ⟨_,hs,zP⟩:=hs.pubr 0 (A:=sWA) (c:=sWc) (l:=vW) (f:=vc) (ty:=28) (sz:=1) undef (fun _=>rfl);obtain ⟨_,hs,zQ⟩:=hs.pubr 0 (A:=sBA) (c:=sBc) (l:=tB) (f:=rqc) (ty:=97) (sz:=3) rqd (fun _=>rfl);refine lL hs [.v 91 (pB zb),.o 92 (qS sA ((us).length) sc) 1 0 1,.o 93 (.agg #[nV (pick (kindAt kd k) 3+1),qS sWA ((vW).length) sWc,qS sBA ((tB).length) sBc]) 0 0 3] (lR 94 134 1 ([nV (pick (kindAt kd k) 3+1),qS sWA ((vW).length) sWc,qS sBA ((tB).length) sBc]) hs (fun yi _ _ hs=>lY 95 0 134 3 sc sA us lvc (((pick (kindAt kd k) 3+1:Nat),qS sWA ((vW).length) sWc,qS sBA ((tB).length) sBc):LV) 56 yi (.agg #[iV 0,sZ,sZ]) hs hs.f.1 (fun zL zM _ yj hs=>lL hs [.v 96 (pB zb)] (lP 1 0 ([qS zL ((us++[(((pick (kindAt kd k) 3+1:Nat),qS sWA ((vW).length) sWc,qS sBA ((tB).length) sBc):LV)]).length) zM]) hs (fun _ hs=>lN (kQ (lL hs [.m 46 15] (lIn 47 ((k+1:Nat)+1) ((k+1)+1) ?_))))))));refine lL hs [.m 15 47] (lD ?_);intro a_ ka;replace hs:=(hs.tl.tl.tl.tl.tl.tl.add (K:=Rn (us++[(((pick (kindAt kd k) 3+1:Nat),qS sWA ((vW).length) sWc,qS sBA ((tB).length) sBc):LV)]) (ls++[(⟨(pick (kindAt kd k) 3+1:Nat),Wl,Bl⟩:Lay)])) ((hs.f.q.2.1).snoc ⟨rfl,⟨_,_,vW,rfl,zP,hs.f.r.1,hs.f.r.2.1⟩,⟨_,_,tB,rfl,zQ,hs.f.2.1,hs.f.q.1⟩⟩));replace hs:=hs.drop 1 0;refine ⟨_,_,?_,⟨k+1,zL,zM,us++[(((pick (kindAt kd k) 3+1:Nat),qS sWA ((vW).length) sWc,qS sBA ((tB).length) sBc):LV)],ls++[(⟨(pick (kindAt kd k) 3+1:Nat),Wl,Bl⟩:Lay)],at2,yj,rfl,rfl,hs.to _ _,oM,(by simp;omega),hat2,(mk_snoc hMk (by rw[hkl];exact ⟨rfl,by show Wl.length=_;omega,hWs,by show Bl.length=_;omega,hBs⟩))⟩,ka.to _ kR⟩
  omega
 have zx:=oT zk;refine lB 59 zk (lN (cIT (cK (cQ (kZ (cSL (lL hs [.v 18 (sZ)] (lN (cQ (cSL (lL hs [.v 19 (iV 0)] (lN (kZ ?_)))))))))))));replace hs:=hs.nil 97 3;refine cTo [(10,pB b1),(11,pB b4),(12,qS Az nS nS),(14,pB zb),(15,nV (k+1)),(4,iV ((kindAt kd k).tdiv 3)),(16,pB zc),(17,nV j),(19,iV 0),(18,sZ)] ?_;replace hs:=hs.aT (RTs.nil);refine CG.loop (fun μ_ Γ w_=>∃ (c:Nat) (srA:Option Addr) (src:Nat) (tr:List RT) (qr:List Rat) (at3:Nat) (h_:Hp),μ_=S.getD k 0-c∧Γ=[(10,pB b1),(11,pB b4),(12,qS Az nS nS),(14,pB zb),(15,nV (k+1)),(4,iV ((kindAt kd k).tdiv 3)),(16,pB zc),(17,nV j),(19,nV c),(18,qS srA ((tr).length) src)]∧SS w h w_ h_ [⟨zc,134,[nV (pick (kindAt kd k) 3+1),qS sWA ((vW).length) sWc,qS sBA ((tB).length) sBc]⟩,⟨zb,63,[qS sA ((us).length) sc]⟩,⟨b4,103,[qS A zs.length cap,nV at3]⟩,⟨b1,63,[sZ]⟩] [⟨97,3,srA,src,(tr).length,(tr).flatMap rqc⟩,⟨28,1,sWA,sWc,(vW).length,(vW).flatMap vc⟩,⟨97,3,sBA,sBc,(tB).length,(tB).flatMap rqc⟩,⟨134,3,sA,sc,(us).length,(us).flatMap lvc⟩] [Rt tr qr,Ru vW Wl,Rt tB Bl,Rn us ls,Sn Az S,Sn (sB za) S17,fun h_=>Seg h_ za 0 ([nV ((pick (i_) 3)+1),nV ((pick (o_) 3)+1)]),Si A zs]∧c≤S.getD k 0∧qr.length=c∧at3≤zs.length∧Smalls qr) _ ⟨0,none,0,[],[],at2,yg,rfl,rfl,hs.to _ _,Nat.zero_le _,rfl,hat2,fun r hr=>by simp at hr⟩ ?_;rintro _ _ _ ⟨c,srA,src,tr,qr,at3,_,hm86,rfl,hs,hc,hqr,hat3,hQs⟩;have hltr:=(hs.f.1).len;refine cQ (cSL (lL hs [.m 62 19,.m 63 12,.m 64 15] (lV 65 (nV k) ?_ (hr:=rint (ri64 (n:=((k+1:Nat):Int)-1) kR oM oM) oM))));refine lX 66 Az nS nS 1 (k:Nat) k ((hs.f.q.1).ok oM) (lH 67 (nV (S.getD k 0)) hs ((hs.f.q.1).el k oM) ?_);cases zl:(decide ((c:Int)<((S.getD k 0:Nat):Int)))
 ·
  have zA:=oF zl;refine lB 68 zl (lN (cIF (CG.exit ?_)))
  show CG _ _ _ _ _ _ _ _
  refine cSL (lL hs [.v 77 (qP zc 1),.o 78 (qS sWA ((vW).length) sWc) 0 1 1] ?_);obtain ⟨_,hs,zR⟩:=hs.pubr 0 (A:=srA) (c:=src) (l:=tr) (f:=rqc) (ty:=97) (sz:=3) rqd (fun _=>rfl);refine lL hs [.m 79 18] (lR 80 28 1 ([qS srA ((tr).length) src]) hs (fun yk _ _ hs=>lY 81 0 28 1 sWc sWA vW vc (qS srA ((tr).length) src:Value) 24 yk (sZ) hs hs.f.1 (fun zq zr _ _ hs=>lL hs [.v 82 (qP zc 1)] (lP 0 1 ([qS zq ((vW++[(qS srA ((tr).length) src:Value)]).length) zr]) hs (fun _ hs=>lN (CG.region ⟨(b4::(Value.slice sBA ((tB).length) sBc).ownBlock.toList),none⟩ 7 [] mixed kR hs.g al_nil (hs.rb_lt 2 1 (rb:=b4) (ty:=97) (sz:=3) (A:=sBA) (c:=sBc) (m:=(tB).length) (cs:=(tB).flatMap rqc)) ?_))))));refine eV 0 83 (qP zc 2) (eO 1 84 [(0,2,1)] (qS sBA ((tB).length) sBc) hs ?_ (hM:=fun p hp=>by obtain rfl:=List.mem_singleton.1 hp;exact hs.rb_ne 0 2 1 (rb:=b4) (ty:=97) (sz:=3) (A:=sBA) (c:=sBc) (m:=(tB).length) (cs:=(tB).flatMap rqc)));refine eV 2 85 (pB b4) (eCm 3 86 hs (List.mem_cons_self) (fun _ _ hs=>rNext A cap zs hl hz b4 at3 oM _ _ hs.g (hs.own 2) (hs.jk 2) hs.f.q.q.2.1) ?_);rintro _ _ _ _ _ hs u104 ⟨z101,at_z101,rfl,haz101,hzz101,hOz101⟩;replace hs:=(hs.stepM 2 u104 hOz101).to [⟨zc,134,[nV (pick (kindAt kd k) 3+1),qS zq ((vW++[(qS srA ((tr).length) src:Value)]).length) zr,qS sBA ((tB).length) sBc]⟩,⟨zb,63,[qS sA ((us).length) sc]⟩,⟨b4,103,[qS A zs.length cap,nV at_z101]⟩,⟨b1,63,[sZ]⟩] [⟨28,1,zq,zr,(vW++[(qS srA ((tr).length) src:Value)]).length,(vW++[(qS srA ((tr).length) src:Value)]).flatMap vc⟩,⟨97,3,sBA,sBc,(tB).length,(tB).flatMap rqc⟩,⟨134,3,sA,sc,(us).length,(us).flatMap lvc⟩];refine eC 4 87 hs (fun _ _ hs=>mSmall z101 hzz101.1 hzz101.2 _ _ hs.g) ?_;rintro _ _ _ _ _ hs ⟨zd,ze,zf,zg,rfl,zB,zD,zE,zF⟩;replace hs:=hs.aP zE zF;refine eR 5 88 97 1 (rqx (smallq z101) zd ze zf zg) hs (fun zS _ _ hs=>eY 6 89 1 97 3 sBc sBA tB rqc ((ineg (smallq z101).num,qS zd ((lim (iabs (smallq z101).num)).length) ze,qS zf ((lim (smallq z101).den).length) zg):RT) 56 zS (.agg #[qF,sZ,sZ]) hs (fun _ f_=>f_.1) (fun b hb=>List.mem_cons_of_mem _ (Option.mem_toList.2 hb)) (fun zt zu _ _ hs=>eD0 hs (fun _ zT hs=>tV 7 90 (qP zc 2) (tP 8 0 2 ([qS zt ((tB++[((ineg (smallq z101).num,qS zd ((lim (iabs (smallq z101).num)).length) ze,qS zf ((lim (smallq z101).den).length) zg):RT)]).length) zu]) hs (fun _ hs=>tN (kQ (lL hs [.m 60 17] (lIn 61 ((j:Nat)+1) (j+1) ?_))))))));refine lL hs [.m 17 61] (lD ?_);intro a_ ka;replace hs:=((hs.tl.tl.tl.tl.tl.tl.tl.tl.add (K:=Rt (tB++[((ineg (smallq z101).num,qS zd ((lim (iabs (smallq z101).num)).length) ze,qS zf ((lim (smallq z101).den).length) zg):RT)]) (Bl++[smallq z101])) (RTs.snoc hs.f.q.r.2.1 ⟨_,_,_,_,rfl,zB,zD,hs.f.r.1,hs.f.2.1⟩)).add (K:=Ru (vW++[(qS srA ((tr).length) src:Value)]) (Wl++[qr])) (RVs.snoc hs.f.q.r.1 ⟨_,_,tr,rfl,zR,hs.f.q.1,hs.f.q.2.1⟩));refine ⟨_,_,?_,⟨j+1,zq,zr,Wl++[qr],vW++[(qS srA ((tr).length) src:Value)],zt,zu,Bl++[smallq z101],tB++[((ineg (smallq z101).num,qS zd ((lim (iabs (smallq z101).num)).length) ze,qS zf ((lim (smallq z101).den).length) zg):RT)],at_z101,zT,rfl,rfl,hs.to _ _,oM,(by simp;omega),(by simp;omega),haz101,(rows_snoc hWs oM hQs),(Smalls.snoc hBs _)⟩,ka.to _ kR⟩
  omega
 have zA:=oT zl;refine lB 68 zl (lN (cIT (cK (cQ (kZ (kQ (lL hs [.m 71 18,.m 72 11] (lCm 73 (rNext A cap zs hl hz b4 at3 oM _ _ hs.g (hs.own 2) (hs.jk 2) hs.f.q.r.2.1) ?_))))))));rintro _ _ _ u138 ⟨z135,at_z135,rfl,haz135,hzz135,hOz135⟩;replace hs:=(hs.stepM 2 u138 hOz135).to [⟨zc,134,[nV (pick (kindAt kd k) 3+1),qS sWA ((vW).length) sWc,qS sBA ((tB).length) sBc]⟩,⟨zb,63,[qS sA ((us).length) sc]⟩,⟨b4,103,[qS A zs.length cap,nV at_z135]⟩,⟨b1,63,[sZ]⟩] [⟨97,3,srA,src,(tr).length,(tr).flatMap rqc⟩,⟨28,1,sWA,sWc,(vW).length,(vW).flatMap vc⟩,⟨97,3,sBA,sBc,(tB).length,(tB).flatMap rqc⟩,⟨134,3,sA,sc,(us).length,(us).flatMap lvc⟩];refine lC 74 hs (mSmall z135 hzz135.1 hzz135.2 _ _ hs.g) ?_;rintro _ _ _ hs ⟨zm,zn,zo,zp,rfl,zG,zH,zI,zJ⟩;replace hs:=hs.aP zI zJ;refine lR 75 97 1 (rqx (smallq z135) zm zn zo zp) hs (fun zU _ _ hs=>lY 76 0 97 3 src srA tr rqc ((ineg (smallq z135).num,qS zm ((lim (iabs (smallq z135).num)).length) zn,qS zo ((lim (smallq z135).den).length) zp):RT) 56 zU (.agg #[qF,sZ,sZ]) hs hs.f.1 (fun zW ya _ yb hs=>lL hs [.m 18 76] (lN (kQ (lL hs [.m 69 19] (lIn 70 ((c:Nat)+1) (c+1) ?_))))));refine lL hs [.m 19 70] (lD ?_);intro a_ ka;replace hs:=(hs.tl.tl.tl.tl.add (K:=Rt (tr++[((ineg (smallq z135).num,qS zm ((lim (iabs (smallq z135).num)).length) zn,qS zo ((lim (smallq z135).den).length) zp):RT)]) (qr++[smallq z135])) (RTs.snoc hs.f.r.2.1 ⟨_,_,_,_,rfl,zG,zH,hs.f.r.1,hs.f.2.1⟩));refine ⟨_,_,?_,⟨c+1,zW,ya,tr++[((ineg (smallq z135).num,qS zm ((lim (iabs (smallq z135).num)).length) zn,qS zo ((lim (smallq z135).den).length) zp):RT)],qr++[smallq z135],at_z135,yb,rfl,rfl,hs.to _ _,oM,(by simp;omega),haz135,(Smalls.snoc hQs _)⟩,ka.to _ kR⟩
 omega
structure LayFit (L:Lay):Prop where
  rl:L.W.length≤1000000
  rls:∀ i,i<L.W.length→(L.W.getD i []).length≤1000000
  rf:∀ i,i<L.W.length→∀ j,j<(L.W.getD i []).length→LQ 100000000 ((L.W.getD i []).getD j 0)
  bl:L.B.length≤1000000
  bf:∀ i,i<L.B.length→LQ 100000000 (L.B.getD i 0)
theorem mInNet (A:Option Addr)(cap:Nat)(ts:List LV)(ls:List Lay)(hn:ls.length≤1000000)(hF:∀ i,i<ls.length→LayFit (ls.getD i lay0))(w:World)(h:Hp)(g:G w h)(hA:Sl A ts h)(hN:RNetL h ts ls)(tb:Tab h):CR 29 #[.agg #[.slice A ts.length cap]] w h (fun v h1=>∃ A c,∃ us:List LV,v=.agg #[.slice A us.length c]∧us.length≤c∧Sl A us h1∧NetL h1 us ls):=by
 have hs:=((((sS g).aS hA).aM hN).aB tb);have hl:=(hs.f.2.1).len;refine go Tryz.func29 [(0,.agg #[qS A ts.length cap])] rfl (cSL (lA 1 63 ([qS A ts.length cap]) hs (fun b1 w2 h3 hs=>lA 2 74 ([sZ]) hs (fun b4 w5 h6 hs=>lNS (lA 3 74 ([sZ]) hs (fun b7 w8 h9 hs=>lN (cQ (cSL (lL hs [.v 4 (iV 0)] (lN (kZ ?_)))))))))));replace hs:=hs.nil 144 3;refine cTo [(1,pB b1),(2,pB b4),(3,pB b7),(4,iV 0)] ?_;replace hs:=hs.aN (NetL.nil);refine CG.loop (fun μ_ Γ w_=>∃ (k:Nat) (sA:Option Addr) (sc:Nat) (us:List LV) (h_:Hp),μ_=ls.length-k∧Γ=[(1,pB b1),(2,pB b4),(3,pB b7),(4,nV k)]∧SS w h w_ h_ [⟨b7,74,[qS sA ((us).length) sc]⟩,⟨b4,74,[sZ]⟩,⟨b1,63,[qS A ts.length cap]⟩] [⟨144,3,sA,sc,(us).length,(us).flatMap lvc⟩] [Nn us (ls.take k),fun h_=>Tab h_,Rn ts ls,Sl A ts]∧k≤ls.length) _ ⟨0,none,0,[],h9,rfl,rfl,hs.to _ _,Nat.zero_le _⟩ ?_;rintro _ _ _ ⟨k,sA,sc,us,_,hm12,rfl,hs,hk⟩;have hlU:=(hs.f.1).len;have htk:(ls.take k).length=k:=by simp;omega
 refine cQ (cSL (lL hs [.m 6 4,.v 7 (pB b1),.o 8 (qS A ts.length cap) 2 0 1,.v 9 (nV ts.length)] ?_));cases za:(decide ((k:Int)<(ts.length:Int)))
 ·
  have zc:=oF za;refine lB 10 za (lN (cIF (CG.exit ?_)))
  show CG _ _ _ _ _ _ _ _
  refine cSL ?_;obtain ⟨_,hs,zf⟩:=hs.pubr 0 (A:=sA) (c:=sc) (l:=us) (f:=lvc) (ty:=144) (sz:=3) lvd (fun _=>rfl);refine lL hs [.o 32 (.agg #[qS sA ((us).length) sc]) 0 0 1] (lP 1 0 ([qS sA ((us).length) sc]) hs (fun _ hs=>lN (kX ?_)));have hkq:ls.take k=ls:=List.take_of_length_le oM;rw[hkq] at hs
  exact hs.ret [(1,0,1)] (.agg #[qS sA ((us).length) sc]) (⟨_,_,us,rfl,zf,hs.f.1,hs.f.2.1⟩)
 have zc:=oT za;refine lB 10 za (lN (cIT (cK (cQ (kZ (cSL (lL hs [.v 13 (pB b1),.o 14 (qS A ts.length cap) 2 0 1,.m 15 4] (lX 16 A ts.length cap 3 (k:Nat) k ((hs.f.r.2.1).ok oM) ?_))))))));obtain ⟨ekx,⟨AWx,cWx,usx,eWx,hcWx,hAWx,hTWx⟩,⟨ABx,cBx,rsx,eBx,hcBx,hABx,hTBx⟩⟩:=(hs.f.r.1).at_ k oM;replace hs:=((((hs.aS hAWx).aV hTWx).aS hABx).aT hTBx);refine lHe 17 (.agg #[iV ((ts.getD k lvd).1),(ts.getD k lvd).2.1,(ts.getD k lvd).2.2]) hs ((hs.f.q.r.2.1).el k oM) (by rw[ekx,eWx,eBx]) (lA 5 134 ([iV 0,sZ,sZ]) hs (fun zb _ _ hs=>lP 0 0 ([iV ((ls.getD k lay0).k),qS AWx usx.length cWx,qS ABx rsx.length cBx]) hs (fun _ hs=>lN (CG.region ⟨(b4::(Value.slice sA ((us).length) sc).ownBlock.toList),none⟩ 13 [] mixed kR hs.g al_nil (hs.rb_lt 2 0 (rb:=b4) (ty:=144) (sz:=3) (A:=sA) (c:=sc) (m:=(us).length) (cs:=(us).flatMap lvc)) ?_))));refine eV 0 18 (pB b7) (eO 1 19 [(1,0,1)] (qS sA ((us).length) sc) hs ?_ (hM:=fun p hp=>by obtain rfl:=List.mem_singleton.1 hp;exact hs.rb_ne 1 2 0 (rb:=b4) (ty:=144) (sz:=3) (A:=sA) (c:=sc) (m:=(us).length) (cs:=(us).flatMap lvc)));refine eV 2 20 (pB zb) (eO 3 21 [(0,0,1)] (iV ((ls.getD k lay0).k)) hs ?_ (hM:=fun p hp=>by obtain rfl:=List.mem_singleton.1 hp;exact hs.rb_ne 0 2 0 (rb:=b4) (ty:=144) (sz:=3) (A:=sA) (c:=sc) (m:=(us).length) (cs:=(us).flatMap lvc)));refine eV 4 22 (qP zb 1) (eO 5 23 [(0,1,1)] (qS AWx usx.length cWx) hs ?_ (hM:=fun p hp=>by obtain rfl:=List.mem_singleton.1 hp;exact hs.rb_ne 0 2 0 (rb:=b4) (ty:=144) (sz:=3) (A:=sA) (c:=sc) (m:=(us).length) (cs:=(us).flatMap lvc)));refine eV 7 25 (qP zb 2) (eO 8 26 [(0,2,1)] (qS ABx rsx.length cBx) hs ?_ (hM:=fun p hp=>by obtain rfl:=List.mem_singleton.1 hp;exact hs.rb_ne 0 2 0 (rb:=b4) (ty:=144) (sz:=3) (A:=sA) (c:=sc) (m:=(us).length) (cs:=(us).flatMap lvc)));refine eC 6 24 hs (fun _ _ hs=>hInRows AWx cWx usx (ls.getD k lay0).W ((hF k oM).rl) ((hF k oM).rls) ((hF k oM).rf) _ _ hs.g hs.f.r.2.1 hs.f.r.1 hs.f.q.2.1) ?_;rintro _ _ _ _ _ hs ⟨Au,cu,uu,rfl,hcu,hAu,hQu⟩;replace hs:=((hs.aS hAu).aQ hQu);refine eC 9 27 hs (fun _ _ hs=>hInRow ABx cBx rsx (ls.getD k lay0).B (hF k oM).bl (hF k oM).bf _ _ hs.g hs.f.r.2.1 hs.f.r.1 hs.f.q.r.2.1) ?_;rintro _ _ _ _ _ hs ⟨Ab,cb,rfl,hcb,hAb⟩;replace hs:=hs.aS hAb;refine eV 10 28 (.agg #[iV ((ls.getD k lay0).k),qS Au uu.length cu,qS Ab ((ls.getD k lay0).B.length) cb]) (eR 11 29 144 1 ([iV ((ls.getD k lay0).k),qS Au uu.length cu,qS Ab ((ls.getD k lay0).B.length) cb]) hs (fun zg _ _ hs=>eY 12 30 0 144 3 sc sA us lvc (((ls.getD k lay0).k,qS Au uu.length cu,qS Ab ((ls.getD k lay0).B.length) cb):LV) 56 zg (.agg #[iV 0,sZ,sZ]) hs (fun _ f_=>f_.1) (fun b hb=>List.mem_cons_of_mem _ (Option.mem_toList.2 hb)) (fun zd ze _ _ hs=>eD0 hs (fun _ zi hs=>tV 13 31 (pB b7) (tP 14 1 0 ([qS zd ((us++[(((ls.getD k lay0).k,qS Au uu.length cu,qS Ab ((ls.getD k lay0).B.length) cb):LV)]).length) ze]) hs (fun _ hs=>tN (kQ (lL hs [.m 11 4] (lIn 12 ((k:Nat)+1) (k+1) ?_)))))))));refine lL hs [.m 4 12] (lD ?_);intro a_ ka;replace hs:=(hs.tl.tl.tl.tl.tl.tl.tl.tl.tl.add (K:=Nn (us++[(((ls.getD k lay0).k,qS Au uu.length cu,qS Ab ((ls.getD k lay0).B.length) cb):LV)]) (ls.take (k+1))) (by rw[take_snoc' lay0 oM];exact (hs.f.q.q.1).snoc ⟨rfl,⟨Au,cu,uu,rfl,hcu,hs.f.r.2.1,hs.f.r.1⟩,⟨Ab,cb,rfl,hcb,hs.f.2.1⟩⟩));replace hs:=hs.drop 1 0;refine ⟨_,_,?_,⟨k+1,zd,ze,us++[(((ls.getD k lay0).k,qS Au uu.length cu,qS Ab ((ls.getD k lay0).B.length) cb):LV)],zi,rfl,rfl,hs.to _ _,oM⟩,ka.to _ kR⟩
 omega
structure Stp where
  op:Int
  a:Int
  b:Int
  n:Int
  q:Rat
def stp0:Stp:=⟨0,0,0,0,0⟩
abbrev gP (l:List Stp)(k:Nat):Stp:=l.getD k stp0
def stc (s:Stp):List Value:=[.int .i64 s.op,.int .i64 s.a,.int .i64 s.b,.int .i64 s.n,.bool (ineg s.q.num),.int .u64 (lo (iabs s.q.num)),.string (hi (iabs s.q.num)),.int .u64 (lo (qd s.q)),.string (hi (qd s.q))]
def stv (s:Stp):Value:=.agg #[.int .i64 s.op,.int .i64 s.a,.int .i64 s.b,.int .i64 s.n,.bool (ineg s.q.num),.int .u64 (lo (iabs s.q.num)),.string (hi (iabs s.q.num)),.int .u64 (lo (qd s.q)),.string (hi (qd s.q))]
def ari (op:Int):Int :=
  if op=1∨op=2 then 0 else if op=7∨op=8∨op=9∨op=10∨op=11 then 1
  else if op=3∨op=4∨op=5∨op=6∨op=12∨op=13 then 2 else -1
theorem ari_cases (op:Int):(ari op=0∧(op=1∨op=2))∨(ari op=1∧(op=7∨op=8∨op=9∨op=10∨op=11))∨(ari op=2∧(op=3∨op=4∨op=5∨op=6∨op=12∨op=13))∨(ari op = -1∧(op<1∨13<op)):=by
  unfold ari;split
  · exact .inl ⟨rfl,by assumption⟩
  · split
    · exact .inr (.inl ⟨rfl,by assumption⟩)
    · split
      · exact .inr (.inr (.inl ⟨rfl,by assumption⟩))
      · exact .inr (.inr (.inr ⟨rfl,by omega⟩))
def Refers (i:Nat)(tt:Int)(used:Prop):Prop:=(used→0≤tt∧tt<i)∧(¬used→tt=0)
def Formed (inp:Int)(i:Nat)(s:Stp):Prop :=
  0≤ari s.op∧Refers i s.a (0<ari s.op)∧Refers i s.b (1<ari s.op)∧(s.op≠1→s.q.num=0) ∧
  (s.op=2→0≤s.n∧s.n<inp)∧(s.op=8 → -12≤s.n∧s.n≤12)∧(s.op≠2→s.op≠8→s.n=0)
instance (i:Nat) (tt:Int) (u:Prop) [Decidable u]:Decidable (Refers i tt u):=by unfold Refers;infer_instance
instance (inp:Int) (i:Nat) (s:Stp):Decidable (Formed inp i s):=by unfold Formed;infer_instance
def weightS (s:Stp)(hv:List Int):Int :=
  if ari s.op=0 then 1 else if ari s.op=2 then hv.getD s.a.toNat 0+hv.getD s.b.toNat 0
  else if s.op=11 then 2*hv.getD s.a.toNat 0 else if s.op=8 then max (max s.n (0-s.n)) 1*hv.getD s.a.toNat 0 else hv.getD s.a.toNat 0
def goS (inp:Int):List Stp→List Int→Int
  | [],_=>0
  | s::r,hv=>if Formed inp hv.length s then (if 65536<weightS s hv then 18 else goS inp r (hv++[weightS s hv])) else 2
def OutsOk (n:Nat)(os:List Int):Prop:=∀ i,i<os.length→0≤os.getD i 0∧os.getD i 0<n
instance (n:Nat) (os:List Int):Decidable (OutsOk n os):=by unfold OutsOk;infer_instance
def chkTp (inp:Int)(l:List Stp)(os:List Int):Int :=
  if 0≤inp∧inp≤1000∧l.length≤65536∧os.length≤300 then (if goS inp l []=0 then (if OutsOk l.length os then 0 else 1) else goS inp l []) else 5
theorem drop_cons' {l:List Stp}{k:Nat}(h:k<l.length):l.drop k=l.getD k stp0::l.drop (k+1):=by
  rw[List.drop_eq_getElem_cons h];simp[h]
theorem goS_bad {inp:Int}{l:List Stp}{hv:List Int}{k:Nat}(hk:k<l.length)(hl:hv.length=k)(h:¬Formed inp k (l.getD k stp0)):goS inp (l.drop k) hv=2:=by
  rw[drop_cons' hk,goS,hl,if_neg h]
theorem goS_over {inp:Int}{l:List Stp}{hv:List Int}{k:Nat}(hk:k<l.length)(hl:hv.length=k)(h:Formed inp k (l.getD k stp0))(hw:65536<weightS (l.getD k stp0) hv):goS inp (l.drop k) hv=18:=by
  rw[drop_cons' hk,goS,hl,if_pos h,if_pos hw]
theorem goS_step {inp:Int}{l:List Stp}{hv:List Int}{k:Nat}(hk:k<l.length)(hl:hv.length=k)(h:Formed inp k (l.getD k stp0))(hw:¬65536<weightS (l.getD k stp0) hv):goS inp (l.drop k) hv=goS inp (l.drop (k+1)) (hv++[weightS (l.getD k stp0) hv]):=by
  rw[drop_cons' hk,goS,hl,if_pos h,if_neg hw]
theorem getD_take {l:List Int}{k j:Nat}(h:j<k):(l.take k).getD j 0=l.getD j 0:=by
  rw[List.getD_eq_getElem?_getD,List.getElem?_take_of_lt h,←List.getD_eq_getElem?_getD]
theorem weight_take {inp:Int}{s:Stp}{L:List Int}{k:Nat}(h:Formed inp k s):weightS s (L.take k)=weightS s L:=by
  obtain ⟨h0,⟨ha,_⟩,⟨hb,_⟩,_⟩:=h
  unfold weightS
  rcases ari_cases s.op with ⟨e,_⟩|⟨e,_⟩|⟨e,_⟩|⟨e,_⟩
  · rw[e];rfl
  · have:=ha oM
    rw[e,getD_take oM];simp
  · have:=ha oM;have:=hb oM
    rw[e,getD_take oM,getD_take oM]
  · omega
theorem take_set_snoc {L:List Int}{k:Nat}{x:Int}(h:k<L.length):(L.set k x).take (k+1)=L.take k++[x]:=by
  rw[List.take_add_one,List.take_set_of_le (Nat.le_refl k)]
  simp[h]
def Wts (L:List Int)(k:Nat):Prop:=∀ j,j<k→1≤L.getD j 0∧L.getD j 0≤65536
theorem Wts.weight {inp:Int}{s:Stp}{L:List Int}{k:Nat}(w:Wts L k)(h:Formed inp k s):1≤weightS s L∧weightS s L≤786432:=by
  obtain ⟨h0,⟨ha,_⟩,⟨hb,_⟩,_,_,h8,_⟩:=h
  unfold weightS
  rcases ari_cases s.op with ⟨e,_⟩|⟨e,_⟩|⟨e,_⟩|⟨e,_⟩
  · rw[e,if_pos rfl];decide
  · have h1:=ha oM
    have h2:=w s.a.toNat oM;rw[e,if_neg kD,if_neg kD]
    split
    · omega
    · split
      · have h3:=h8 aM
        have h4:1≤max (max s.n (0-s.n)) 1∧max (max s.n (0-s.n)) 1≤12:=by omega
        have h5:1*1≤max (max s.n (0-s.n)) 1*L.getD s.a.toNat 0:=Int.mul_le_mul h4.1 h2.1 oM oM;have h6:max (max s.n (0-s.n)) 1*L.getD s.a.toNat 0≤12*65536:=Int.mul_le_mul h4.2 h2.2 oM oM
        omega
      · omega
  · have h1:=ha oM
    have h2:=w s.a.toNat oM;have h3:=hb oM;have h4:=w s.b.toNat oM;rw[e,if_neg kD,if_pos rfl];omega
  · omega
theorem Wts.pow {inp:Int}{s:Stp}{L:List Int}{k:Nat}(w:Wts L k)(h:Formed inp k s)(h8:s.op=8):1≤max (max s.n (0-s.n)) 1*L.getD s.a.toNat 0∧max (max s.n (0-s.n)) 1*L.getD s.a.toNat 0≤786432:=by
  have:=w.weight h
  unfold weightS ari at this
  simp only[h8] at this
  simpa using this
theorem Wts.snoc {L:List Int}{k:Nat}{x:Int}(w:Wts L k)(hk:k<L.length)(h1:1≤x)(h2:x≤65536):Wts (L.set k x) (k+1):=fun j hj=>by
  by_cases e:j=k
  · subst e;rw[List.getD_eq_getElem?_getD,List.getElem?_set_self hk];exact ⟨h1,h2⟩
  · rw[List.getD_eq_getElem?_getD,List.getElem?_set_ne (Ne.symm e),←List.getD_eq_getElem?_getD];exact w j oM
theorem chkTp_shape {inp:Int}{l:List Stp}{os:List Int}(h:¬(0≤inp∧inp≤1000∧l.length≤65536∧os.length≤300)):chkTp inp l os=5:=by unfold chkTp;rw[if_neg h]
theorem chkTp_go {inp:Int}{l:List Stp}{os:List Int}(h:0≤inp∧inp≤1000∧l.length≤65536∧os.length≤300)(hg:goS inp l []≠0):chkTp inp l os=goS inp l []:=by unfold chkTp;rw[if_pos h,if_neg hg]
theorem chkTp_arg {inp:Int}{l:List Stp}{os:List Int}(h:0≤inp∧inp≤1000∧l.length≤65536∧os.length≤300)(hg:goS inp l []=0)(ho:¬OutsOk l.length os):chkTp inp l os=1:=by unfold chkTp;rw[if_pos h,if_pos hg,if_neg ho]
theorem chkTp_ok {inp:Int}{l:List Stp}{os:List Int}(h:0≤inp∧inp≤1000∧l.length≤65536∧os.length≤300)(hg:goS inp l []=0)(ho:OutsOk l.length os):chkTp inp l os=0:=by unfold chkTp;rw[if_pos h,if_pos hg,if_pos ho]
structure RSt where
  op:Int
  a:Int
  b:Int
  n:Int
  t:RT
def rst0:RSt:=⟨0,0,0,0,rqd⟩
structure OSt where
  op:Int
  a:Int
  b:Int
  n:Int
  q:Rat
  has:Bool
def ost0:OSt:=⟨0,0,0,0,0,false⟩
def odn (o:OSt):Nat:=if o.has then o.q.den else 0
structure RS1 (h:Hp) (t:RSt) (o:OSt):Prop where
  op:t.op=o.op
  a:t.a=o.a
  b:t.b=o.b
  n:t.n=o.n
  q:RP h (rtv t.t) o.q.num (odn o)
  z:o.has=false→o.q=0
structure RSs (h:Hp) (ts:List RSt) (os:List OSt):Prop where
  len:ts.length=os.length
  at_:∀ i,i<os.length→RS1 h (ts.getD i rst0) (os.getD i ost0)
structure OSm (o:OSt):Prop where
  op : -1000≤o.op∧o.op≤1000
  a : -1000≤o.a∧o.a≤1000
  b : -1000≤o.b∧o.b≤1000
  n : -1000≤o.n∧o.n≤1000
  q:LQ 1 o.q
def Opr (k:Nat)(s:Stp):Prop:=(0<ari s.op→s.a.toNat<k)∧(1<ari s.op→s.b.toNat<k)∧(0<ari s.op→s.b.toNat<k)∧(s.op≠2→0≤ari s.op)
theorem Formed.opr {inp:Int}{k:Nat}{s:Stp}(h:Formed inp k s):Opr k s:=by
  obtain ⟨f0,⟨f1,f1'⟩,⟨f2,f2'⟩,_⟩:=h;refine ⟨fun h=>by have:=f1 h;omega,fun h=>by have:=f2 h;omega,fun h=>?_,fun _=>f0⟩;have:=f1 h
  by_cases h2:1<ari s.op
  · have:=f2 h2;omega
  · have:=f2' h2;omega
section
variable {inp:Int} {i:Nat} {s:Stp} (h:Formed inp i s)
include h
theorem Formed.ix:0≤s.a∧0≤s.b∧s.a.toNat≤i∧s.b.toNat≤i:=by
  obtain ⟨f0,⟨f1,f1'⟩,⟨f2,f2'⟩,_⟩:=h
  by_cases h1:0<ari s.op
  · have:=f1 h1
    by_cases h2:1<ari s.op
    · have:=f2 h2;omega
    · have:=f2' h2;omega
  · have:=f1' h1;have:=f2' oM;omega
theorem Formed.nm (e:s.op=2):0≤s.n∧s.n<inp:=h.2.2.2.2.1 e
theorem Formed.op_ (h2:s.op≠2):1≤s.op∧s.op≤13∧s.op≠2:=by have:=ari_cases s.op;have:=h.1;omega
theorem Formed.o68:(s.op=6∨s.op=8→s.a.toNat<i)∧(s.op=6→s.b.toNat<i):=⟨fun e=>h.opr.1 (by rcases e with e|e<;>rw[e]<;>decide),fun e=>h.opr.2.1 (by rw[e];decide)⟩
end
def RightP (W:List (List Rat)):Prop:=0<W.length∧0<(W.getD 0 []).length∧∀ i,i<W.length→(W.getD i []).length=(W.getD 0 []).length
noncomputable def rightq (W:List (List Rat)):Bool:=@decide (RightP W) (Classical.propDecidable _)
theorem right_step {W:List (List Rat)}{k:Nat}(hR:∀ i,i<k→(W.getD i []).length=(W.getD 0 []).length)(h:(W.getD k []).length=(W.getD 0 []).length):∀ i,i<k+1→(W.getD i []).length=(W.getD 0 []).length:=fun i hi=>by
  by_cases e:i=k
  · rw[e];exact h
  · exact hR i oM
theorem rq_t {W:List (List Rat)}(h:RightP W):Value.bool true=.bool (rightq W):=by unfold rightq;rw[@decide_eq_true _ (Classical.propDecidable _) h]
theorem rq_f {W:List (List Rat)}(h:¬RightP W):Value.bool false=.bool (rightq W):=by unfold rightq;rw[@decide_eq_false _ (Classical.propDecidable _) h]
theorem rq_is {W:List (List Rat)}(h:rightq W=true):RightP W:=by unfold rightq at h;exact @oT _ (Classical.propDecidable _) h
theorem rq_not {W:List (List Rat)}(h:rightq W=false):¬RightP W:=by unfold rightq at h;exact @oF _ (Classical.propDecidable _) h
theorem mRightG (A:Option Addr)(cap:Nat)(us:List Value)(W:List (List Rat))(hl:W.length≤1000000)(hls:∀ i,i<W.length→(W.getD i []).length≤1000000)(w:World)(h:Hp)(g:G w h)(hA:Sv A us h)(hU:QVs h us W):CV 145 #[.slice A us.length cap] w h (.bool (rightq W)):=by
 have hs:=(((sS g).aS hA).aQ hU);have hlu:=(hs.f.1).len;refine go Tryz.func145 [(0,qS A us.length cap)] rfl (cSL (lL hs [.v 2 qF] (lN (cQ (cSL (lL hs [.m 5 0,.v 6 (nV us.length)] ?_))))));cases hb1:((us.length:Int) == (0:Int))
 ·
  have phb1:=neOfBeq hb1;refine lB 7 hb1 (lL hs [.m 8 7,.m 9 0] (lX 10 A us.length cap 1 0 0 ((hs.f.2.1).ok oM) ?_));obtain ⟨Aqz,cqz,eqz,hcqz,hRqz⟩:=(hs.f.1).at_ 0 oM;replace hs:=hs.aS hRqz;refine lHe 11 (us.getD 0 undef) hs ((hs.f.r.1).el 0 oM) eqz (lL hs [.v 12 (nV ((W.getD 0 []).length))] ?_);cases hb2:((((W.getD 0 []).length:Nat):Int) == (0:Int))
  ·
   have phb2:=neOfBeq hb2;refine lB 13 hb2 (lL hs [.v 14 qF] (lN (cIF (cK (cQ (cSL (lL hs [.m 15 0,.v 16 (nV us.length),.v 17 (iV 0)] (lN (kZ ?_)))))))));refine cTo _ (CG.loop (fun μ_ Γ w_=>∃ (k:Nat) (h_:Hp),μ_=us.length-k∧Γ=[(0,qS A us.length cap),(15,qS A us.length cap),(16,nV us.length),(17,nV k)]∧SS w h w_ h_ [] [] [Sq Aqz (W.getD 0 []),Qu us W,Sv A us]∧k≤us.length∧(∀ i,i<k→(W.getD i []).length=(W.getD 0 []).length)) _ ⟨0,h,rfl,rfl,hs.to _ _,Nat.zero_le _,fun i hi=>absurd hi (Nat.not_lt_zero i)⟩ ?_);rintro _ _ w3 ⟨k,h4,hm5,rfl,hs,hk,hR⟩;refine cSL ?_;cases hb6:(decide ((k:Int)<(us.length:Int)))
   ·
    have phb6:=oF hb6;refine lB 18 hb6 (lN (cQ (cIF (CG.exit ?_))))
    show CG _ _ _ _ _ _ _ _
    exact cSL (lL hs [.v 2 qT] (lN (kX (hs.ret [] qT (rq_t ⟨by omega,by omega,fun i hi=>hR i oM⟩)))))
   have phb6:=oT hb6;refine lB 18 hb6 (lN (cQ (cIT (cK (cQ (kZ (cSL (lX 19 A us.length cap 1 (k:Nat) k ((hs.f.r.1).ok oM) ?_))))))));obtain ⟨Aqx,cqx,eqx,hcqx,hRqx⟩:=(hs.f.2.1).at_ k oM;replace hs:=hs.aS hRqx;refine lHe 20 (us.getD k undef) hs ((hs.f.r.2.1).el k oM) eqx (lL hs [.m 4 20] (lNS (lL hs [.m 21 4,.v 22 (nV ((W.getD k []).length)),.m 23 0] (lX 24 A us.length cap 1 0 0 ((hs.f.r.2.1).ok oM) ?_))));obtain ⟨Aqy,cqy,eqy,hcqy,hRqy⟩:=(hs.f.r.1).at_ 0 oM;replace hs:=hs.aS hRqy;refine lHe 25 (us.getD 0 undef) hs ((hs.f.q.1).el 0 oM) eqy (lL hs [.v 26 (nV ((W.getD 0 []).length))] ?_);cases hb7:((((W.getD k []).length:Nat):Int) != (((W.getD 0 []).length:Nat):Int))
   ·
    have phb7:=eqOfBne hb7;refine lB 27 hb7 (lN (cIF (cK (kQ (lIn 28 ((k:Nat)+1) (k+1) ?_)))));refine lL hs [.m 17 28] (lD ?_);intro a_ ka;replace hs:=hs.tl.tl;refine ⟨_,_,?_,⟨k+1,h4,rfl,rfl,hs.to _ _,oM,(right_step hR oM)⟩,ka.to _ kR⟩
    omega
   have phb7:=neOfBne hb7;exact lB 27 hb7 (lN (cIT (cSL (lL hs [.v 2 qF] (lN (kX (hs.ret [] qF (rq_f (fun h_=>by have h1_:=h_.1;have h2_:=h_.2.1;have h3_:=h_.2.2 k oM;omega)))))))))
  have phb2:=eq_of_beq hb2;exact lB 13 hb2 (lL hs [.v 14 qT] (lN (cIT (cSL (lL hs [.v 2 qF] (lN (kX (hs.ret [] qF (rq_f (fun h_=>by have h1_:=h_.1;have h2_:=h_.2.1;omega))))))))))
 have phb1:=eq_of_beq hb1;refine lB 7 hb1 (lL hs [.m 8 7] (lG 9 ?_));exact lG 10 (lG 11 (lG 12 (lG 13 (lL hs [.v 14 qT] (lN (cIT (cSL (lL hs [.v 2 qF] (lN (kX (hs.ret [] qF (rq_f (fun h_=>by have h1_:=h_.1;have h2_:=h_.2.1;omega)))))))))))))
theorem nKnownG (k:Int)(w:World)(h:Hp)(g:G w h):CV 146 #[iV k] w h (.bool (decide (1≤k∧k≤3))):=by
 have hs:=sS g;refine go Tryz.func146 [(0,iV k)] rfl (cSL (lL hs [.v 2 qF] (lNS (lL hs [.m 3 0] ?_))));cases hb1:((k:Int) == (1:Int))
 ·
  have phb1:=neOfBeq hb1;refine lB 4 hb1 (lL hs [.m 5 4,.m 6 0] ?_);cases hb2:((k:Int) == (2:Int))
  ·
   have phb2:=neOfBeq hb2;refine lB 7 hb2 (lL hs [.v 8 qF,.m 9 8,.m 10 0] ?_);cases hb3:((k:Int) == (3:Int))
   ·
    have phb3:=neOfBeq hb3;exact lB 11 hb3 (lL hs [.v 12 qF,.m 2 12] (lN (kX (hs.ret [] qF (congrArg Value.bool (decide_eq_false oM).symm)))))
   have phb3:=eq_of_beq hb3;exact lB 11 hb3 (lL hs [.v 12 qT,.m 2 12] (lN (kX (hs.ret [] qT (congrArg Value.bool (decide_eq_true oM).symm)))))
  have phb2:=eq_of_beq hb2;refine lB 7 hb2 (lL hs [.v 8 qT,.m 9 8] (lG 10 ?_));exact lG 11 (lL hs [.v 12 qT,.m 2 12] (lN (kX (hs.ret [] qT (congrArg Value.bool (decide_eq_true oM).symm)))))
 have phb1:=eq_of_beq hb1;refine lB 4 hb1 (lL hs [.m 5 4] (lG 6 ?_));refine lG 7 (lL hs [.v 8 qT,.m 9 8] (lG 10 ?_));exact lG 11 (lL hs [.v 12 qT,.m 2 12] (lN (kX (hs.ret [] qT (congrArg Value.bool (decide_eq_true oM).symm)))))
def Fine (ls:List Lay)(k:Nat):Prop:=RightP (ls.getD k lay0).W∧(ls.getD k lay0).W.length≤12∧(ls.getD k lay0).B.length=(ls.getD k lay0).W.length∧(k=0→((ls.getD k lay0).W.getD 0 []).length≤20)∧(0<k→((ls.getD k lay0).W.getD 0 []).length=(ls.getD (k-1) lay0).W.length)
def Kd (ls:List Lay)(k:Nat):Prop:=1≤(ls.getD k lay0).k∧(ls.getD k lay0).k≤3
open Classical in
noncomputable def chkFrom (ls:List Lay) (k:Nat):Nat→Int
  | 0=>0
  | n+1=>if Fine ls k then (if Kd ls k then chkFrom ls (k+1) n else 10) else 5
noncomputable def chkq (ls:List Lay):Int:=if 1≤ls.length∧ls.length≤4 then chkFrom ls 0 ls.length else 5
theorem chk_len {ls:List Lay}(h:¬(1≤ls.length∧ls.length≤4)):Value.int .i64 5=.int .i64 (chkq ls):=by unfold chkq;rw[if_neg h]
theorem chk_start {ls:List Lay}(h:1≤ls.length∧ls.length≤4):chkq ls=chkFrom ls 0 (ls.length-0):=by unfold chkq;rw[if_pos h];rfl
theorem chk_sub {ls:List Lay}{k:Nat}(h:k<ls.length):ls.length-k=(ls.length-(k+1))+1:=by omega
theorem chk_end {ls:List Lay}{k:Nat}(h:chkq ls=chkFrom ls k (ls.length-k))(hk:ls.length≤k):Value.int .i64 0=.int .i64 (chkq ls):=by rw[h,Nat.sub_eq_zero_of_le hk];rfl
theorem chk_bad {ls:List Lay}{k:Nat}(h:chkq ls=chkFrom ls k (ls.length-k))(hk:k<ls.length)(hf:¬Fine ls k):Value.int .i64 5=.int .i64 (chkq ls):=by rw[h,chk_sub hk,chkFrom,if_neg hf]
theorem chk_kind {ls:List Lay}{k:Nat}(h:chkq ls=chkFrom ls k (ls.length-k))(hk:k<ls.length)(hf:Fine ls k)(hd:¬Kd ls k):Value.int .i64 10=.int .i64 (chkq ls):=by rw[h,chk_sub hk,chkFrom,if_pos hf,if_neg hd]
theorem chk_step {ls:List Lay}{k:Nat}(h:chkq ls=chkFrom ls k (ls.length-k))(hk:k<ls.length)(hf:Fine ls k)(hd:Kd ls k):chkq ls=chkFrom ls (k+1) (ls.length-(k+1)):=by rw[h,chk_sub hk,chkFrom,if_pos hf,if_pos hd]
structure LayLen (L:Lay):Prop where
  rl:L.W.length≤1000000
  rls:∀ i,i<L.W.length→(L.W.getD i []).length≤1000000
  bl:L.B.length≤1000000
theorem nCheckG (A:Option Addr)(cap:Nat)(ts:List LV)(ls:List Lay)(hn:ls.length≤1000000)(hF:∀ i,i<ls.length→LayLen (ls.getD i lay0))(w:World)(h:Hp)(g:G w h)(hA:Sl A ts h)(hN:NetL h ts ls):CV 89 #[.agg #[.slice A ts.length cap]] w h (iV (chkq ls)):=by
 have hs:=(((sS g).aS hA).aN hN);have hl:=(hs.f.1).len;refine go Tryz.func89 [(0,.agg #[qS A ts.length cap])] rfl (cSL (lA 1 74 ([qS A ts.length cap]) hs (fun b1 w2 h3 hs=>lL hs [.v 2 (iV 0)] (lN (cQ (cSL (lL hs [.v 5 (pB b1),.o 6 (qS A ts.length cap) 0 0 1,.v 7 (nV ts.length)] ?_)))))));cases hb4:(decide ((ts.length:Int)<(1:Int)))
 ·
  have phb4:=oF hb4;refine lB 8 hb4 (lL hs [.m 9 8,.v 10 (pB b1),.o 11 (qS A ts.length cap) 0 0 1,.v 12 (nV ts.length)] ?_);cases hb5:(decide ((4:Int)<(ts.length:Int)))
  ·
   have phb5:=oF hb5;refine lB 13 hb5 (lL hs [.v 14 qF] (lN (cIF (cK (cQ (cSL (lL hs [.v 15 (pB b1),.o 16 (qS A ts.length cap) 0 0 1,.v 17 (nV ts.length),.v 18 (iV 0)] (lN (kZ ?_)))))))));refine cTo _ (CG.loop (fun μ_ Γ w_=>∃ (k:Nat) (h_:Hp),μ_=ls.length-k∧Γ=[(1,pB b1),(16,qS A ts.length cap),(17,nV ts.length),(18,nV k)]∧SS w h w_ h_ [⟨b1,74,[qS A ts.length cap]⟩] [] [Nn ts ls,Sl A ts]∧k≤ls.length∧chkq ls=chkFrom ls k (ls.length-k)) _ ⟨0,h3,rfl,rfl,hs.to _ _,Nat.zero_le _,chk_start oM⟩ ?_);rintro _ _ w6 ⟨k,h7,hm8,rfl,hs,hk,hi⟩;refine cSL ?_;cases hb9:(decide ((k:Int)<(ts.length:Int)))
   ·
    have phb9:=oF hb9;refine lB 19 hb9 (lN (cQ (cIF (CG.exit ?_))))
    show CG _ _ _ _ _ _ _ _
    exact cSL (lL hs [.v 2 (iV 0)] (lN (kX (hs.ret [] (iV 0) (chk_end hi oM)))))
   have phb9:=oT hb9;refine lB 19 hb9 (lN (cQ (cIT (cK (cQ (kZ (cSL (lL hs [.m 20 18] (lX 21 A ts.length cap 3 (k:Nat) k ((hs.f.2.1).ok oM) ?_)))))))));obtain ⟨ekx,⟨AWx,cWx,usx,eWx,hcWx,hAWx,hUx⟩,⟨ABx,cBx,eBx,hcBx,hABx⟩⟩:=(hs.f.1).at_ k oM;have lux:=hUx.len;replace hs:=(((hs.aS hAWx).aQ hUx).aS hABx);refine lHe 22 (.agg #[iV ((ts.getD k lvd).1),(ts.getD k lvd).2.1,(ts.getD k lvd).2.2]) hs ((hs.f.q.1).el k oM) (by rw[ekx,eWx,eBx]) (lA 4 144 ([iV 0,sZ,sZ]) hs (fun za _ _ hs=>lL hs [.m 3 20] (lP 0 0 ([iV ((ls.getD k lay0).k),qS AWx usx.length cWx,qS ABx ((ls.getD k lay0).B.length) cBx]) hs (fun _ hs=>lN (cQ (cSL (lL hs [.v 23 (qP za 1),.o 24 (qS AWx usx.length cWx) 0 1 1] (lC 25 hs (mRightG AWx cWx usx (ls.getD k lay0).W (hF k oM).rl (hF k oM).rls _ _ hs.g hs.f.r.1 hs.f.2.1) ?_))))))));rintro _ _ _ hs rfl;cases zi:(rightq (ls.getD k lay0).W)
   ·
    have zm:=rq_not zi;refine lL hs [.v 26 qT,.m 27 26] (lG 28 ?_);refine lG 29 (lG 30 (lG 31 (lL hs [.v 32 qT,.m 33 32] (lG 34 ?_))));exact lG 35 (lG 36 (lG 37 (lG 38 (lG 39 (lG 40 (lL hs [.v 41 qT] (lN (cIT (cSL (lL hs [.v 2 (iV 5)] (lN (kX (hs.ret [] (iV 5) (chk_bad hi oM (fun ⟨f1,f2,f3,f4,f5⟩=>by first|exact absurd f1 aM|omega|(have:=f4 oM;omega)|(have:=f5 oM;omega)|(have:=hwd oM;have:=f5 oM;omega))))))))))))))))
   have zm:=rq_is zi;refine lL hs [.v 26 qF,.m 27 26] ?_;obtain ⟨hr1,hr2,hr3⟩:=‹RightP (ls.getD k lay0).W›;refine lL hs [.v 28 (qP za 1),.o 29 (qS AWx usx.length cWx) 0 1 1,.v 30 (nV usx.length)] ?_;cases zb:(decide ((12:Int)<(usx.length:Int)))
   ·
    have zn:=oF zb;refine lB 31 zb (lL hs [.v 32 qF,.m 33 32,.v 34 (qP za 2),.o 35 (qS ABx ((ls.getD k lay0).B.length) cBx) 0 2 1,.v 36 (nV ((ls.getD k lay0).B.length)),.v 37 (qP za 1),.o 38 (qS AWx usx.length cWx) 0 1 1,.v 39 (nV usx.length)] ?_);cases zc:((((ls.getD k lay0).B.length:Nat):Int) != (usx.length:Int))
    ·
     have zo:=eqOfBne zc;refine lB 40 zc (lL hs [.v 41 qF] (lN (cIF (cK (cQ (cQ (cR 30 [] mixed hs al_nil ?_)))))));refine eV 0 42 (nV k) ?_;cases zd:((k:Int) == (0:Int))
     ·
      have zp:=neOfBeq zd;refine eB 1 43 zd (eV 2 44 qF (eG 3 45 (eG 4 46 (eG 5 47 (eG 6 48 (eG 7 49 (eG 8 50 (eV 9 51 qF (eV 10 52 qF (eV 11 53 (nV k) ?_))))))))));cases ze:(decide ((0:Int)<(k:Int)))
      ·
       have zq:=oF ze;refine eB 12 54 ze (eV 13 55 qF (eG 14 56 (eG 15 57 (eG 16 58 (eG 17 59 (eG 18 60 (eG 19 61 (eG 20 62 (eG 21 63 (eG 22 64 (eG 23 65 (eG 24 66 (eG 25 67 (eG 26 68 (eG 27 69 (eV 28 70 qF (eV 29 71 qF (eD0 hs (fun _ _ hs=>tN (cTo [(1,pB b1),(16,qS A ts.length cap),(17,nV ts.length),(18,nV k),(4,pB za),(71,qF)] ?_))))))))))))))))))));refine cIF (cK (cSL (lL hs [.v 72 (pB za),.o 73 (iV ((ls.getD k lay0).k)) 0 0 1] (lC 74 hs (nKnownG (ls.getD k lay0).k _ _ hs.g) ?_))));rintro _ _ zx hs rfl;cases zj:(decide (1≤(ls.getD k lay0).k∧(ls.getD k lay0).k≤3))
       ·
        have zr:=oF zj;exact lL hs [.v 75 qT] (lN (cIT (cSL (lL hs [.v 2 (iV 10)] (lN (kX (hs.ret [] (iV 10) (chk_kind hi oM (⟨‹RightP _›,by omega,by omega,fun _=>by omega,fun h_=>by first|omega|(have:=hwd h_;omega)⟩) (by first|assumption|(intro h_;have h1_:=h_.1;have h2_:=h_.2;omega))))))))))
       have zr:=oT zj;refine lL hs [.v 75 qF] (lN (cIF (cK (kQ (lIn 76 ((k:Nat)+1) (k+1) ?_)))));refine lL hs [.m 18 76] (lD ?_);intro a_ ka;replace hs:=hs.tl.tl.tl;replace hs:=hs.drop 1 0;refine ⟨_,_,?_,⟨k+1,zx,rfl,rfl,hs.to _ _,oM,(chk_step hi oM ⟨‹RightP _›,by omega,by omega,fun _=>by omega,fun _=>by omega⟩ aM)⟩,ka.to _ kR⟩
       omega
      have zq:=oT ze;refine eB 12 54 ze (eV 13 55 qT (eV 14 56 (qP za 1) (eO 15 57 [(0,1,1)] (qS AWx usx.length cWx) hs (eX 16 58 AWx usx.length cWx 1 0 0 ((hs.f.r.1).ok oM) ?_))));obtain ⟨Arq,crq,erq,hcrq,hRrq⟩:=(hs.f.2.1).at_ 0 oM;replace hs:=hs.aS hRrq;refine eHe 17 59 (usx.getD 0 undef) hs ((hs.f.r.2.1).el 0 oM) erq (eV 18 60 (nV ((((ls.getD k lay0).W).getD 0 []).length)) (eV 19 61 (pB b1) (eO 20 62 [(1,0,1)] (qS A ts.length cap) hs (eV 21 63 (nV k) (eIn 22 64 ((k:Nat)-1) (k-1) (eX 23 65 A ts.length cap 3 (k-1:Nat) (k-1) ((hs.f.q.2.1).ok oM) (eV 24 66 (.pointer (some ⟨(aB A),aO A+(k-1)*3+1,none⟩)) ?_)))))));obtain ⟨eky,⟨AWy,cWy,usy,eWy,hcWy,hAWy,hUy⟩,⟨ABy,cBy,eBy,hcBy,hABy⟩⟩:=(hs.f.q.1).at_ (k-1) oM;have luy:=hUy.len;replace hs:=(((hs.aS hAWy).aQ hUy).aS hABy);refine eHe 25 67 ((ts.getD (k-1) lvd).2.1) hs (((hs.f.q.q.1).el (k-1) oM).part 1 1) eWy (eV 26 68 (nV usy.length) ?_);cases zf:((((((ls.getD k lay0).W).getD 0 []).length:Nat):Int) != (usy.length:Int))
      ·
       have zs:=eqOfBne zf;refine eB 27 69 zf (eV 28 70 qF (eV 29 71 qF (eD0 hs (fun _ _ hs=>tN (cTo [(1,pB b1),(16,qS A ts.length cap),(17,nV ts.length),(18,nV k),(4,pB za),(71,qF)] ?_)))));refine cIF (cK (cSL (lL hs [.v 72 (pB za),.o 73 (iV ((ls.getD k lay0).k)) 0 0 1] (lC 74 hs (nKnownG (ls.getD k lay0).k _ _ hs.g) ?_))));rintro _ _ zA hs rfl;cases zk:(decide (1≤(ls.getD k lay0).k∧(ls.getD k lay0).k≤3))
       ·
        have zt:=oF zk;exact lL hs [.v 75 qT] (lN (cIT (cSL (lL hs [.v 2 (iV 10)] (lN (kX (hs.ret [] (iV 10) (chk_kind hi oM (⟨‹RightP _›,by omega,by omega,fun _=>by omega,fun h_=>by first|omega|(have:=hwd h_;omega)⟩) (by first|assumption|(intro h_;have h1_:=h_.1;have h2_:=h_.2;omega))))))))))
       have zt:=oT zk;refine lL hs [.v 75 qF] (lN (cIF (cK (kQ (lIn 76 ((k:Nat)+1) (k+1) ?_)))));refine lL hs [.m 18 76] (lD ?_);intro a_ ka;replace hs:=hs.tl.tl.tl.tl.tl.tl.tl;replace hs:=hs.drop 1 0;refine ⟨_,_,?_,⟨k+1,zA,rfl,rfl,hs.to _ _,oM,(chk_step hi oM ⟨‹RightP _›,by omega,by omega,fun _=>by omega,fun _=>by omega⟩ aM)⟩,ka.to _ kR⟩
       omega
      have zs:=neOfBne zf;refine eB 27 69 zf (eV 28 70 qT (eV 29 71 qT (eD0 hs (fun _ _ hs=>tN (cTo [(1,pB b1),(16,qS A ts.length cap),(17,nV ts.length),(18,nV k),(4,pB za),(71,qT)] ?_)))));exact cIT (cSL (lL hs [.v 2 (iV 5)] (lN (kX (hs.ret [] (iV 5) (chk_bad hi oM (fun ⟨f1,f2,f3,f4,f5⟩=>by first|exact absurd f1 aM|omega|(have:=f4 oM;omega)|(have:=f5 oM;omega)|(have:=hwd oM;have:=f5 oM;omega))))))))
     have zp:=eq_of_beq zd;refine eB 1 43 zd (eV 2 44 qT (eV 3 45 (qP za 1) (eO 4 46 [(0,1,1)] (qS AWx usx.length cWx) hs (eX 5 47 AWx usx.length cWx 1 0 0 ((hs.f.r.1).ok oM) ?_))));obtain ⟨Arp,crp,erp,hcrp,hRrp⟩:=(hs.f.2.1).at_ 0 oM;replace hs:=hs.aS hRrp;refine eHe 6 48 (usx.getD 0 undef) hs ((hs.f.r.2.1).el 0 oM) erp (eV 7 49 (nV ((((ls.getD k lay0).W).getD 0 []).length)) ?_);cases zg:(decide ((20:Int)<(((((ls.getD k lay0).W).getD 0 []).length:Nat):Int)))
     ·
      have zu:=oF zg;refine eB 8 50 zg (eV 9 51 qF (eV 10 52 qF (eV 11 53 (nV k) ?_)));have ⟨zw,phb39⟩:=dF (p:=(0:Int)<(k:Int)) oM;refine eB 12 54 zw (eV 13 55 qF (eG 14 56 (eG 15 57 (eG 16 58 (eG 17 59 (eG 18 60 (eG 19 61 (eG 20 62 (eG 21 63 (eG 22 64 (eG 23 65 (eG 24 66 (eG 25 67 (eG 26 68 (eG 27 69 (eV 28 70 qF (eV 29 71 qF (eD0 hs (fun _ _ hs=>tN (cTo [(1,pB b1),(16,qS A ts.length cap),(17,nV ts.length),(18,nV k),(4,pB za),(71,qF)] ?_))))))))))))))))))));refine cIF (cK (cSL (lL hs [.v 72 (pB za),.o 73 (iV ((ls.getD k lay0).k)) 0 0 1] (lC 74 hs (nKnownG (ls.getD k lay0).k _ _ hs.g) ?_))));rintro _ _ zB hs rfl;cases zl:(decide (1≤(ls.getD k lay0).k∧(ls.getD k lay0).k≤3))
      ·
       have zv:=oF zl;exact lL hs [.v 75 qT] (lN (cIT (cSL (lL hs [.v 2 (iV 10)] (lN (kX (hs.ret [] (iV 10) (chk_kind hi oM (⟨‹RightP _›,by omega,by omega,fun _=>by omega,fun h_=>by first|omega|(have:=hwd h_;omega)⟩) (by first|assumption|(intro h_;have h1_:=h_.1;have h2_:=h_.2;omega))))))))))
      have zv:=oT zl;refine lL hs [.v 75 qF] (lN (cIF (cK (kQ (lIn 76 ((k:Nat)+1) (k+1) ?_)))));refine lL hs [.m 18 76] (lD ?_);intro a_ ka;replace hs:=hs.tl.tl.tl.tl;replace hs:=hs.drop 1 0;refine ⟨_,_,?_,⟨k+1,zB,rfl,rfl,hs.to _ _,oM,(chk_step hi oM ⟨‹RightP _›,by omega,by omega,fun _=>by omega,fun _=>by omega⟩ aM)⟩,ka.to _ kR⟩
      omega
     have zu:=oT zg;refine eB 8 50 zg (eV 9 51 qT (eV 10 52 qT (eG 11 53 (eG 12 54 (eG 13 55 (eG 14 56 (eG 15 57 (eG 16 58 (eG 17 59 (eG 18 60 (eG 19 61 (eG 20 62 (eG 21 63 (eG 22 64 (eG 23 65 (eG 24 66 (eG 25 67 (eG 26 68 (eG 27 69 (eG 28 70 (eV 29 71 qT (eD0 hs (fun _ _ hs=>tN (cTo [(1,pB b1),(16,qS A ts.length cap),(17,nV ts.length),(18,nV k),(4,pB za),(71,qT)] ?_))))))))))))))))))))))));exact cIT (cSL (lL hs [.v 2 (iV 5)] (lN (kX (hs.ret [] (iV 5) (chk_bad hi oM (fun ⟨f1,f2,f3,f4,f5⟩=>by first|exact absurd f1 aM|omega|(have:=f4 oM;omega)|(have:=f5 oM;omega)|(have:=hwd oM;have:=f5 oM;omega))))))))
    have zo:=neOfBne zc;exact lB 40 zc (lL hs [.v 41 qT] (lN (cIT (cSL (lL hs [.v 2 (iV 5)] (lN (kX (hs.ret [] (iV 5) (chk_bad hi oM (fun ⟨f1,f2,f3,f4,f5⟩=>by first|exact absurd f1 aM|omega|(have:=f4 oM;omega)|(have:=f5 oM;omega)|(have:=hwd oM;have:=f5 oM;omega)))))))))))
   have zn:=oT zb;refine lB 31 zb (lL hs [.v 32 qT,.m 33 32] (lG 34 ?_));exact lG 35 (lG 36 (lG 37 (lG 38 (lG 39 (lG 40 (lL hs [.v 41 qT] (lN (cIT (cSL (lL hs [.v 2 (iV 5)] (lN (kX (hs.ret [] (iV 5) (chk_bad hi oM (fun ⟨f1,f2,f3,f4,f5⟩=>by first|exact absurd f1 aM|omega|(have:=f4 oM;omega)|(have:=f5 oM;omega)|(have:=hwd oM;have:=f5 oM;omega))))))))))))))))
  have phb5:=oT hb5;exact lB 13 hb5 (lL hs [.v 14 qT] (lN (cIT (cSL (lL hs [.v 2 (iV 5)] (lN (kX (hs.ret [] (iV 5) (chk_len oM)))))))))
 have phb4:=oT hb4;refine lB 8 hb4 (lL hs [.m 9 8] (lG 10 ?_));exact lG 11 (lG 12 (lG 13 (lL hs [.v 14 qT] (lN (cIT (cSL (lL hs [.v 2 (iV 5)] (lN (kX (hs.ret [] (iV 5) (chk_len oM)))))))))))
structure Mat (W:List (List Rat)) (r c:Nat):Prop where
  rows:W.length=r
  rpos:0<r
  cpos:0<c
  row:∀ i,i<r→(W.getD i []).length=c
structure Net3 (ls:List Lay) (d:Nat→Nat):Prop where
  len:1≤ls.length∧ls.length≤4
  first:d 0≤20
  lay:∀ i,i<ls.length→Mat (ls.getD i lay0).W (d (i+1)) (d i)∧(ls.getD i lay0).B.length=d (i+1)∧d (i+1)≤12∧((ls.getD i lay0).k=1∨(ls.getD i lay0).k=2∨(ls.getD i lay0).k=3)
theorem Net3.small {ls:List Lay}{d:Nat→Nat}(o:Net3 ls d)(i:Nat)(h:i<ls.length):d i≤20:=by
  cases i with
  | zero=>exact o.first
  | succ i=>have:=(o.lay i oM).2.2.1;omega
theorem one_abs_pos (u:Rat):0<((1:Int):Rat)+qabs u:=by
  have h:(0:Rat)≤qabs u:=by rw[←Rat.num_nonneg,qabs_num];omega
  have h1:(0:Rat)<((1:Int):Rat):=by decide
  grind
theorem one_abs_ne (u:Rat):(((1:Int):Rat)+qabs u).num≠0:=by
  have:=one_abs_pos u;intro e;have e2:((1:Int):Rat)+qabs u=0:=by rw[←Rat.num_eq_zero];exact e
  rw[e2] at this;exact absurd this kD
def act (k:Int)(u:Rat):Rat:=if k=2 then maxR u 0 else if k=3 then u/(((1:Int):Rat)+qabs u) else u
theorem LQ.act {m:Nat}{u:Rat}(k:Int)(h:LQ m u)(hm:0<m):LQ (2*m+2) (act k u):=by
  unfold Go.Proofs.YtmkcmnhnmajheaaGreatDoor.act
  split
  · exact (LQ.maxR h ((LQ.lit (z:=0) kD).mono oM)).mono oM
  · split
    · exact (h.div ((LQ.lit (z:=1) kD).add h.abs)).mono oM
    · exact h.mono oM
def layq (L:Lay)(x:List Rat):List Rat:=(List.range L.W.length).map fun i=>act L.k (dotq (L.W.getD i []) x x.length+L.B.getD i 0)
def outq (ls:List Lay)(xs:List Rat):Nat→List Rat
  | 0=>xs
  | k+1=>layq (ls.getD k lay0) (outq ls xs k)
abbrev gD (ls:List Lay)(xs:List Rat)(k r:Nat):Rat:=dotq ((ls.getD k lay0).W.getD r []) (outq ls xs k) (outq ls xs k).length
abbrev gS (ls:List Lay)(xs:List Rat)(k r:Nat):Rat:=gD ls xs k r+((ls.getD k lay0).B).getD r 0
theorem outq_len {ls:List Lay}{d:Nat→Nat}(o:Net3 ls d){xs:List Rat}(hx:xs.length=d 0)(k:Nat)(hk:k≤ls.length):(outq ls xs k).length=d k:=by
  cases k with
  | zero=>exact hx
  | succ k=>show (layq _ _).length=_;unfold layq;rw[List.length_map,List.length_range];exact (o.lay k oM).1.rows
structure NetB (ls:List Lay) (xs:List Rat):Prop where
  w:∀ k i j,LQ 1000000 (((ls.getD k lay0).W.getD i []).getD j 0)
  b:∀ k i,LQ 1000000 ((ls.getD k lay0).B.getD i 0)
  x:∀ k,k≤ls.length→∀ j,LQ 1000000 ((outq ls xs k).getD j 0)
theorem getD_set_self {l:List Rat}{i:Nat}{x:Rat}(h:i<l.length):(l.set i x).getD i 0=x:=by
  rw[List.getD_eq_getElem?_getD,List.getElem?_set_self h];rfl
theorem fstep {pl:List Rat}{f:Nat→Rat}{i:Nat}{x:Rat}(hp:∀ j,j<i→pl.getD j 0=f j)(hi:i<pl.length)(hx:x=f i):∀ j,j<i+1→(pl.set i x).getD j 0=f j:=by
  intro j hj
  by_cases e:j=i
  · subst e;rw[getD_set_self hi,hx]
  · rw[List.getD_eq_getElem?_getD,List.getElem?_set_ne (Ne.symm e),←List.getD_eq_getElem?_getD];exact hp j oM
theorem dot_b1 {n:Nat}(h:n≤20):n*(1000000+1000000+1)+1000000+1000000+2≤100000000:=by rw[Nat.mul_comm n];omega
theorem dot_b2 {n:Nat}(h:n≤20):n*(1000000+1000000+1)+1≤41000000:=by rw[Nat.mul_comm n];omega
theorem map_of {pl:List Rat}{f:Nat→Rat}{i n:Nat}(hp:∀ j,j<i→pl.getD j 0=f j)(hi:i=n)(hl:pl.length=n):pl=(List.range n).map f:=by
  subst hi;refine List.ext_getElem (by simp[hl]) (fun j h1 h2=>?_);have:=hp j oM;rw[List.getD_eq_getElem?_getD,List.getElem?_eq_getElem h1] at this
  simp only[List.getElem_map,List.getElem_range]
  exact this
def sumq (L:Lay)(x:List Rat):List Rat:=(List.range L.W.length).map fun i=>dotq (L.W.getD i []) x x.length+L.B.getD i 0
def insq (ls:List Lay)(xs:List Rat)(n:Nat):List (List Rat):=(List.range n).map (outq ls xs)
def sumsq (ls:List Lay)(xs:List Rat)(n:Nat):List (List Rat):=(List.range n).map fun k=>sumq (ls.getD k lay0) (outq ls xs k)
theorem insq_succ (ls:List Lay)(xs:List Rat)(n:Nat):insq ls xs (n+1)=insq ls xs n++[outq ls xs n]:=by unfold insq;rw[List.range_succ,List.map_append];rfl
theorem sumsq_succ (ls:List Lay)(xs:List Rat)(n:Nat):sumsq ls xs (n+1)=sumsq ls xs n++[sumq (ls.getD n lay0) (outq ls xs n)]:=by unfold sumsq;rw[List.range_succ,List.map_append];rfl
theorem fDotN (A:Option Addr)(ca:Nat)(a:List Rat)(D:Option Addr)(cd:Nat)(b:List Rat)(n m1 m2:Nat)(h1:a.length=m1)(h2:b.length=m2)(e1:m1=n)(e2:m2=n)(K L:Nat)(hn:n≤1000000)(hb:n*(K+L+1)+K+L+2≤100000000)(ha:∀ i,LQ K (a.getD i 0))(hbb:∀ i,LQ L (b.getD i 0))(w:World)(h:Hp)(g:G w h)(hA:Sq A a h)(hD:Sq D b h)(tb:Tab h):CV 22 #[.slice A m1 ca,.slice D m2 cd] w h (.tuple #[qv (dotq a b n),.bool true]):=by
  subst h1 h2 e1;exact fDot A ca a D cd b K L e2.symm hn hb (fun i _=>ha i) (fun i _=>hbb i) w h g hA hD tb
theorem nAct1 (u:Rat)(w:World)(h:Hp)(g:G w h):CV 177 #[iV 1,qv u] w h (qv u):=by
 have hs:=sS g;exact go Tryz.func177 [(0,iV 1),(1,qv u)] rfl (cSL (lA 3 55 (qc u) hs (fun b1 w2 h3 hs=>lA 4 55 ([qF,uV 0,eS,uV 0,eS]) hs (fun b4 w5 h6 hs=>lN (cQ (cSL (lL hs [.m 7 0] (lN (kZ (cSL (lL hs [.v 9 qF,.m 8 9] (lN (cIF (cSL (lL hs [.v 14 qF,.m 13 14] (lN (cIF (cK (cSL (lL hs [.o 25 (qv u) 1 0 5] (lP 0 0 (qc u) hs (fun w7 hs=>lN (kX (hs.ret [(0,0,5)] (qv u) rfl))))))))))))))))))))))))
theorem nAct2 (u:Rat)(hu:LQ 45000000 u)(w:World)(h:Hp)(g:G w h):CV 177 #[iV 2,qv u] w h (qv (maxR u 0)):=by
 have hs:=sS g;refine go Tryz.func177 [(0,iV 2),(1,qv u)] rfl (cSL (lA 3 55 (qc u) hs (fun b1 w2 h3 hs=>lA 4 55 ([qF,uV 0,eS,uV 0,eS]) hs (fun b4 w5 h6 hs=>lN (cQ (cSL (lL hs [.m 7 0] (lN (kZ (cSL (lL hs [.v 9 qT,.m 8 9] (lN (cIT (cSL (lL hs [.o 10 (qv u) 1 0 5,.v 11 (qv 0)] (lC 12 hs (fMax u 0 (LQ.mono hu oM) (LQ.mono (LQ.lit (z:=0) kD) oM) _ _ hs.g) ?_))))))))))))))));rintro _ w7 h8 hs rfl;exact lP 0 0 (qc (maxR u 0)) hs (fun w9 hs=>lN (kX (hs.ret [(0,0,5)] (qv (maxR u 0)) rfl)))
theorem nAct3 (u:Rat)(hu:LQ 45000000 u)(w:World)(h:Hp)(g:G w h)(tb:Tab h):CV 177 #[iV 3,qv u] w h (qv (u/(((1:Int):Rat)+qabs u))):=by
 have hs:=((sS g).aB tb);refine go Tryz.func177 [(0,iV 3),(1,qv u)] rfl (cSL (lA 3 55 (qc u) hs (fun b1 w2 h3 hs=>lA 4 55 ([qF,uV 0,eS,uV 0,eS]) hs (fun b4 w5 h6 hs=>lN (cQ (cSL (lL hs [.m 7 0] (lN (kZ (cSL (lL hs [.v 9 qF,.m 8 9] (lN (cIF (cSL (lL hs [.v 14 qT,.m 13 14] (lN (cIT (cQ ?_))))))))))))))))));have hsr:=hs;refine cR 10 [⟨9,5,.cells (List.toArray [qF,uV 0,eS,uV 0,eS]) 55 (0,0)⟩] mixed hs (al_cons (alOk kR (fun _ _=>by kernel_rfl)) al_nil) (eO 0 16 [(1,0,5)] (qv u) hs (eO 2 18 [(1,0,5)] (qv u) hs (eC 1 17 hs (fun _ _ hs=>fOf 1 oM oM _ _ hs.g) ?_)));rintro _ _ _ w7 h8 hs rfl;have hq9:LQ (45000000) (qabs u):=LQ.abs hu;refine eC 3 19 hs (fun _ _ hs=>fAbs u (LQ.mono hu oM) _ _ hs.g) ?_;rintro _ _ _ _ _ hs rfl;have za:=LQ.add (LQ.lit (z:=1) kD) hq9;refine eC 4 20 hs (fun _ _ hs=>fAdd ((1:Int):Rat) (qabs u) (LQ.mono (LQ.lit (z:=1) kD) oM) (LQ.mono hq9 oM) _ _ hs.g hs.f.1) ?_;rintro _ _ _ _ _ hs rfl;have hq15:=LQ.div hu za;refine eC 5 21 hs (fun _ _ hs=>fDivN u (((1:Int):Rat)+(qabs u)) (LQ.mono hu oM) (LQ.mono za oM) (one_abs_ne u) _ _ hs.g hs.f.1) ?_;rintro _ _ _ _ _ hs rfl;exact eV 6 15 (.tuple #[qv (u/(((1:Int):Rat)+(qabs u))),qT]) (eV 7 22 (qv (u/(((1:Int):Rat)+(qabs u)))) (eV 8 23 qT (eD1p [] hsr hs 55 [qF,uV 0,eS,uV 0,eS] (fun _ _ b20 hs=>tP 10 0 0 (qc (u/(((1:Int):Rat)+(qabs u)))) hs (fun _ hs=>tV 11 6 qT (tNS (lL hs [.o 24 (qv (u/(((1:Int):Rat)+(qabs u)))) 0 0 5] (lP 1 0 (qc (u/(((1:Int):Rat)+(qabs u)))) hs (fun _ hs=>lN (kX (hs.ret [(1,0,5)] (qv (u/(((1:Int):Rat)+(qabs u)))) rfl)))))))))))
theorem nAct (k:Int)(hk:k=1∨k=2∨k=3)(u:Rat)(hu:LQ 45000000 u)(w:World)(h:Hp)(g:G w h)(tb:Tab h):CV 177 #[iV k,qv u] w h (qv (act k u)):=by
  rcases hk with rfl|rfl|rfl
  · exact nAct1 u w h g
  · exact nAct2 u hu w h g
  · exact nAct3 u hu w h g tb
theorem nSuitsT (A:Option Addr)(cap:Nat)(ts:List LV)(ls:List Lay)(d:Nat→Nat)(hO:Net3 ls d)(X:Option Addr)(c0:Nat)(xs:List Rat)(hx:xs.length=d 0)(w:World)(h:Hp)(g:G w h)(hA:Sl A ts h)(hN:NetL h ts ls)(hX:Sq X xs h):CV 136 #[.agg #[.slice A ts.length cap],.slice X xs.length c0] w h (.bool true):=by
 have hs:=((((sS g).aS hA).aN hN).aS hX);have hl:=(hs.f.2.1).len;obtain ⟨o1,o2⟩:=hO.len;have o3:=hO.first;refine go Tryz.func136 [(0,.agg #[qS A ts.length cap]),(1,qS X xs.length c0)] rfl (cSL (lA 2 74 ([qS A ts.length cap]) hs (fun b1 w2 h3 hs=>lL hs [.v 4 qF] (lNS (lL hs [.m 5 1,.v 6 (nV xs.length),.v 7 (pB b1),.o 8 (qS A ts.length cap) 0 0 1] (lX 9 A ts.length cap 3 0 0 ((hs.f.r.1).ok oM) ?_))))));refine lL hs [.v 10 (.pointer (some ⟨(aB A),aO A+0*3+1,none⟩))] ?_;obtain ⟨ekx,⟨AWx,cWx,usx,eWx,hcWx,hAWx,hUx⟩,⟨ABx,cBx,eBx,hcBx,hABx⟩⟩:=(hs.f.2.1).at_ 0 oM;obtain ⟨mtx,lbx,r12x,kdx⟩:=hO.lay 0 oM;have lux:=hUx.len;have mrx:=mtx.rows;have mpx:=mtx.rpos;have mcx:=mtx.cpos;have m0x:=mtx.row 0 oM;replace hs:=(((hs.aS hAWx).aQ hUx).aS hABx);refine lHe 11 ((ts.getD 0 lvd).2.1) hs (((hs.f.q.2.1).el 0 oM).part 1 1) eWx (lX 12 AWx usx.length cWx 1 0 0 ((hs.f.r.1).ok oM) ?_);obtain ⟨Arp,crp,erp,hcrp,hRrp⟩:=(hs.f.2.1).at_ 0 oM;replace hs:=hs.aS hRrp;refine lHe 13 (usx.getD 0 undef) hs ((hs.f.r.2.1).el 0 oM) erp (lL hs [.v 14 (nV ((((ls.getD 0 lay0).W).getD 0 []).length))] ?_);have hb4:((xs.length:Int) == (((((ls.getD 0 lay0).W).getD 0 []).length:Nat):Int))=true:=beqT oM;have phb4:=eq_of_beq hb4;exact lB 15 hb4 (lL hs [.m 4 15] (lN (kX (hs.ret [] qT rfl))))
theorem nSuitsF (A:Option Addr)(cap:Nat)(ts:List LV)(ls:List Lay)(d:Nat→Nat)(hO:Net3 ls d)(X:Option Addr)(c0:Nat)(xs:List Rat)(hx:xs.length≠d 0)(w:World)(h:Hp)(g:G w h)(hA:Sl A ts h)(hN:NetL h ts ls)(hX:Sq X xs h):CV 136 #[.agg #[.slice A ts.length cap],.slice X xs.length c0] w h (.bool false):=by
 have hs:=((((sS g).aS hA).aN hN).aS hX);have hl:=(hs.f.2.1).len;obtain ⟨o1,o2⟩:=hO.len;have o3:=hO.first;refine go Tryz.func136 [(0,.agg #[qS A ts.length cap]),(1,qS X xs.length c0)] rfl (cSL (lA 2 74 ([qS A ts.length cap]) hs (fun b1 w2 h3 hs=>lL hs [.v 4 qF] (lNS (lL hs [.m 5 1,.v 6 (nV xs.length),.v 7 (pB b1),.o 8 (qS A ts.length cap) 0 0 1] (lX 9 A ts.length cap 3 0 0 ((hs.f.r.1).ok oM) ?_))))));refine lL hs [.v 10 (.pointer (some ⟨(aB A),aO A+0*3+1,none⟩))] ?_;obtain ⟨ekx,⟨AWx,cWx,usx,eWx,hcWx,hAWx,hUx⟩,⟨ABx,cBx,eBx,hcBx,hABx⟩⟩:=(hs.f.2.1).at_ 0 oM;obtain ⟨mtx,lbx,r12x,kdx⟩:=hO.lay 0 oM;have lux:=hUx.len;have mrx:=mtx.rows;have mpx:=mtx.rpos;have mcx:=mtx.cpos;have m0x:=mtx.row 0 oM;replace hs:=(((hs.aS hAWx).aQ hUx).aS hABx);refine lHe 11 ((ts.getD 0 lvd).2.1) hs (((hs.f.q.2.1).el 0 oM).part 1 1) eWx (lX 12 AWx usx.length cWx 1 0 0 ((hs.f.r.1).ok oM) ?_);obtain ⟨Arp,crp,erp,hcrp,hRrp⟩:=(hs.f.2.1).at_ 0 oM;replace hs:=hs.aS hRrp;refine lHe 13 (usx.getD 0 undef) hs ((hs.f.r.2.1).el 0 oM) erp (lL hs [.v 14 (nV ((((ls.getD 0 lay0).W).getD 0 []).length))] ?_);have hb4:((xs.length:Int) == (((((ls.getD 0 lay0).W).getD 0 []).length:Nat):Int))=false:=beqF oM;have phb4:=neOfBeq hb4;exact lB 15 hb4 (lL hs [.m 4 15] (lN (kX (hs.ret [] qF rfl))))
theorem nForward (A:Option Addr)(cap:Nat)(ts:List LV)(ls:List Lay)(d:Nat→Nat)(hO:Net3 ls d)(X:Option Addr)(c0:Nat)(xs:List Rat)(hx:xs.length=d 0)(hc0:xs.length≤c0)(hB:NetB ls xs)(w:World)(h:Hp)(g:G w h)(hA:Sl A ts h)(hN:NetL h ts ls)(hX:Sq X xs h)(tb:Tab h):CR 137 #[.agg #[.slice A ts.length cap],.slice X xs.length c0] w h (fun v h1=>∃ A1 c1 u1 A2 c2 u2 Ax cx,v=.agg #[.slice A1 (u1:List Value).length c1,.slice A2 (u2:List Value).length c2,.slice Ax (outq ls xs ls.length).length cx]∧u1.length≤c1∧u2.length≤c2∧(outq ls xs ls.length).length≤cx∧Sv A1 u1 h1∧Sv A2 u2 h1∧QVs h1 u1 (insq ls xs ls.length)∧QVs h1 u2 (sumsq ls xs ls.length)∧Sq Ax (outq ls xs ls.length) h1):=by
 have hs:=(((((sS g).aS hA).aN hN).aS hX).aB tb);have hl:=(hs.f.r.1).len;obtain ⟨o1,o2⟩:=hO.len;have o3:=hO.first;refine go Tryz.func137 [(0,.agg #[qS A ts.length cap]),(1,qS X xs.length c0)] rfl (cSL (lA 2 74 ([qS A ts.length cap]) hs (fun b1 w2 h3 hs=>lA 4 197 ([sZ,sZ,sZ]) hs (fun b4 w5 h6 hs=>lNS (lL hs [.m 14 1,.v 15 (.agg #[sZ,sZ,qS X xs.length c0])] (lA 5 197 ([sZ,sZ,sZ]) hs (fun b7 w8 h9 hs=>lP 0 0 ([sZ,sZ,qS X xs.length c0]) hs (fun _ hs=>lN (cQ (cSL (lL hs [.v 16 (pB b1),.o 17 (qS A ts.length cap) 2 0 1,.v 18 (nV ts.length),.v 19 (iV 0)] (lN (kZ ?_)))))))))))));replace hs:=hs.nil 30 1;replace hs:=hs.nil 30 1;refine cTo [(4,pB b4),(5,pB b7),(17,qS A ts.length cap),(18,nV ts.length),(19,iV 0)] ?_;replace hs:=hs.aS hs.f.2.1;replace hs:=hs.aQ (QVs.nil);replace hs:=hs.aQ (QVs.nil);refine CG.loop (fun μ_ Γ w_=>∃ (k:Nat) (s1A:Option Addr) (s1c:Nat) (s2A:Option Addr) (s2c:Nat) (l1:List Value) (l2:List Value) (Ax:Option Addr) (cx:Nat) (h_:Hp),μ_=ls.length-k∧Γ=[(4,pB b4),(5,pB b7),(17,qS A ts.length cap),(18,nV ts.length),(19,nV k)]∧SS w h w_ h_ [⟨b7,197,[qS s1A ((l1).length) s1c,qS s2A ((l2).length) s2c,qS Ax ((outq ls xs k).length) cx]⟩,⟨b4,197,[sZ,sZ,sZ]⟩,⟨b1,74,[qS A ts.length cap]⟩] [⟨30,1,s1A,s1c,(l1).length,(l1).flatMap vc⟩,⟨30,1,s2A,s2c,(l2).length,(l2).flatMap vc⟩] [Qu l1 (insq ls xs k),Qu l2 (sumsq ls xs k),Sq Ax (outq ls xs k),fun h_=>Tab h_,Sq X xs,Nn ts ls,Sl A ts]∧k≤ls.length∧l1.length=k∧l2.length=k∧(outq ls xs k).length≤cx) _ ⟨0,none,0,none,0,[],[],X,c0,h9,rfl,rfl,hs.to _ _,Nat.zero_le _,rfl,rfl,hc0⟩ ?_;rintro _ _ _ ⟨k,s1A,s1c,s2A,s2c,l1,l2,Ax,cx,_,hm13,rfl,hs,hk,hl1,hl2,hcx⟩;have hlx:=outq_len hO hx k oM;have hsm:=fun h0=>hO.small k h0
 refine cSL ?_;cases zf:(decide ((k:Int)<(ts.length:Int)))
 ·
  have zk:=oF zf;refine lB 20 zf (lN (cQ (cIF (CG.exit ?_))))
  show CG _ _ _ _ _ _ _ _
  refine cSL ?_;obtain ⟨_,hs,zn⟩:=hs.pubr 0 (A:=s1A) (c:=s1c) (l:=l1) (f:=vc) (ty:=30) (sz:=1) undef (fun _=>rfl);obtain ⟨_,hs,zo⟩:=hs.pubr 0 (A:=s2A) (c:=s2c) (l:=l2) (f:=vc) (ty:=30) (sz:=1) undef (fun _=>rfl);refine lL hs [.o 83 (.agg #[qS s1A ((l1).length) s1c,qS s2A ((l2).length) s2c,qS Ax ((outq ls xs k).length) cx]) 0 0 3] (lP 1 0 ([qS s1A ((l1).length) s1c,qS s2A ((l2).length) s2c,qS Ax ((outq ls xs k).length) cx]) hs (fun _ hs=>lN (kX ?_)));have hkn:k=ls.length:=by omega
  exact hs.ret [(1,0,3)] (.agg #[qS s1A ((l1).length) s1c,qS s2A ((l2).length) s2c,qS Ax ((outq ls xs k).length) cx]) (by rw[←hkn];exact ⟨_,_,l1,_,_,l2,_,_,rfl,zn,zo,hcx,hs.f.2.1,hs.f.1,hs.f.r.1,hs.f.r.2.1,hs.f.q.1⟩)
 have zk:=oT zf;refine lB 20 zf (lN (cQ (cIT (cK (cQ (kZ (cSL (lX 21 A ts.length cap 3 (k:Nat) k ((hs.f.q.r.1).ok oM) ?_))))))));obtain ⟨ekx,⟨AWx,cWx,usx,eWx,hcWx,hAWx,hUx⟩,⟨ABx,cBx,eBx,hcBx,hABx⟩⟩:=(hs.f.q.2.1).at_ k oM;obtain ⟨mtx,lbx,r12x,kdx⟩:=hO.lay k oM;have lux:=hUx.len;have mrx:=mtx.rows;have mpx:=mtx.rpos;have mcx:=mtx.cpos;have m0x:=mtx.row 0 oM;replace hs:=(((hs.aS hAWx).aQ hUx).aS hABx);refine lHe 22 (.agg #[iV ((ts.getD k lvd).1),(ts.getD k lvd).2.1,(ts.getD k lvd).2.2]) hs ((hs.f.q.q.2.1).el k oM) (by rw[ekx,eWx,eBx]) (lA 7 144 ([iV 0,sZ,sZ]) hs (fun zb _ _ hs=>lP 0 0 ([iV ((ls.getD k lay0).k),qS AWx usx.length cWx,qS ABx ((ls.getD k lay0).B.length) cBx]) hs (fun _ hs=>lNS (lL hs [.v 23 (qP zb 1),.o 24 (qS AWx usx.length cWx) 0 1 1,.v 25 (nV usx.length)] (lK 26 55 usx.length 5 56 (.agg #[qF,uV 0,eS,uV 0,eS]) qc 0 hs (fun za _ _ hs=>?_))))));have hl29:(List.replicate usx.length 0).length=usx.length:=by simp
 refine lL hs [.m 8 26] (lNS (lL hs [.v 27 (qP zb 1),.o 28 (qS AWx usx.length cWx) 1 1 1,.v 29 (nV usx.length)] (lK 30 55 usx.length 5 56 (.agg #[qF,uV 0,eS,uV 0,eS]) qc 0 hs (fun zc _ zr hs=>?_))));have hl33:(List.replicate usx.length 0).length=usx.length:=by simp
 refine lL hs [.m 9 30] (lN (cQ (cSL (lL hs [.v 31 (qP zb 1),.o 32 (qS AWx usx.length cWx) 2 1 1,.v 33 (nV usx.length),.v 34 (iV 0)] (lN (kZ ?_))))));refine cTo _ (CG.loop (fun μ_ Γ w_=>∃ (i:Nat) (ql:List Rat) (pl:List Rat) (h_:Hp),μ_=usx.length-i∧Γ=[(4,pB b4),(5,pB b7),(17,qS A ts.length cap),(18,nV ts.length),(19,nV k),(7,pB zb),(8,qS (sB za) usx.length usx.length),(9,qS (sB zc) usx.length usx.length),(32,qS AWx usx.length cWx),(33,nV usx.length),(34,nV i)]∧SS w h w_ h_ [⟨zc,55,(pl).flatMap qc⟩,⟨za,55,(ql).flatMap qc⟩,⟨zb,144,[iV ((ls.getD k lay0).k),qS AWx usx.length cWx,qS ABx ((ls.getD k lay0).B.length) cBx]⟩,⟨b7,197,[qS s1A ((l1).length) s1c,qS s2A ((l2).length) s2c,qS Ax ((outq ls xs k).length) cx]⟩,⟨b4,197,[sZ,sZ,sZ]⟩,⟨b1,74,[qS A ts.length cap]⟩] [⟨30,1,s1A,s1c,(l1).length,(l1).flatMap vc⟩,⟨30,1,s2A,s2c,(l2).length,(l2).flatMap vc⟩] [Sq ABx (ls.getD k lay0).B,Qu usx (ls.getD k lay0).W,Sv AWx usx,Qu l1 (insq ls xs k),Qu l2 (sumsq ls xs k),Sq Ax (outq ls xs k),fun h_=>Tab h_,Sq X xs,Nn ts ls,Sl A ts]∧i≤usx.length∧ql.length=usx.length∧pl.length=usx.length∧(∀ j,j<i→ql.getD j 0=dotq ((ls.getD k lay0).W.getD j []) (outq ls xs k) (outq ls xs k).length+(ls.getD k lay0).B.getD j 0)∧(∀ j,j<i→pl.getD j 0=act (ls.getD k lay0).k (dotq ((ls.getD k lay0).W.getD j []) (outq ls xs k) (outq ls xs k).length+(ls.getD k lay0).B.getD j 0))) _ ⟨0,List.replicate usx.length 0,List.replicate usx.length 0,zr,rfl,rfl,hs.to _ _,Nat.zero_le _,by simp,by simp,fun j hj=>absurd hj (Nat.not_lt_zero j),fun j hj=>absurd hj (Nat.not_lt_zero j)⟩ ?_);rintro _ _ _ ⟨i,ql,pl,_,hm36,rfl,hs,hi,hlq,hlp,hq,hp⟩;refine cSL ?_;cases zg:(decide ((i:Int)<(usx.length:Int)))
 ·
  have zl:=oF zg;refine lB 35 zg (lN (cQ (cIF (CG.exit ?_))))
  show CG _ _ _ _ _ _ _ _
  refine cSL (lL hs [.v 67 (pB b7),.o 68 (qS s1A ((l1).length) s1c) 3 0 1,.v 69 (qP b7 2),.o 70 (qS Ax ((outq ls xs k).length) cx) 3 2 1] (lR 71 30 1 ([qS Ax ((outq ls xs k).length) cx]) hs (fun zs _ _ hs=>lY 72 0 30 1 s1c s1A l1 vc (qS Ax ((outq ls xs k).length) cx:Value) 24 zs (sZ) hs hs.f.1 (fun zd ze _ _ hs=>lL hs [.v 73 (pB b7)] (lP 3 0 ([qS zd ((l1++[(qS Ax ((outq ls xs k).length) cx:Value)]).length) ze]) hs (fun _ hs=>lNS ?_))))));have hql:ql=sumq (ls.getD k lay0) (outq ls xs k):=map_of hq (show i=(ls.getD k lay0).W.length by omega) (show ql.length=(ls.getD k lay0).W.length by omega);have hlsq:(sumq (ls.getD k lay0) (outq ls xs k)).length=usx.length:=by rw[←hql];exact hlq
  rw[hql] at hs
  obtain ⟨_,hs,sg49,lo50,bc51⟩:=hs.pub 1;replace hs:=(hs.to [⟨zc,55,(pl).flatMap qc⟩,⟨zb,144,[iV ((ls.getD k lay0).k),qS AWx usx.length cWx,qS ABx ((ls.getD k lay0).B.length) cBx]⟩,⟨b7,197,[qS zd ((l1++[(qS Ax ((outq ls xs k).length) cx:Value)]).length) ze,qS s2A ((l2).length) s2c,qS Ax ((outq ls xs k).length) cx]⟩,⟨b4,197,[sZ,sZ,sZ]⟩,⟨b1,74,[qS A ts.length cap]⟩] [⟨30,1,zd,ze,(l1++[(qS Ax ((outq ls xs k).length) cx:Value)]).length,(l1++[(qS Ax ((outq ls xs k).length) cx:Value)]).flatMap vc⟩,⟨30,1,s2A,s2c,(l2).length,(l2).flatMap vc⟩]).aS (SlO.of_flat (sz:=5) (f:=qc) (d:=0) (b:=za) (o:=0) (l:=sumq (ls.getD k lay0) (outq ls xs k)) (fun _=>rfl) sg49);refine lL hs [.v 74 (qP b7 1),.o 75 (qS s2A ((l2).length) s2c) 2 1 1,.m 76 8] (lR 77 30 1 ([qS (sB za) usx.length usx.length]) hs (fun zt _ _ hs=>lY 78 1 30 1 s2c s2A l2 vc (qS (sB za) usx.length usx.length:Value) 24 zt (sZ) hs hs.f.1 (fun zi zj _ _ hs=>lL hs [.v 79 (qP b7 1)] (lP 2 1 ([qS zi ((l2++[(qS (sB za) usx.length usx.length:Value)]).length) zj]) hs (fun _ hs=>lN (kQ ?_))))));have hpl:pl=outq ls xs (k+1):=map_of hp (show i=(ls.getD k lay0).W.length by omega) (show pl.length=(ls.getD k lay0).W.length by omega);have hll:usx.length=(outq ls xs (k+1)).length:=by rw[←hpl];omega
  rw[hpl] at hs
  obtain ⟨zu,hs,sg64,lo65,bc66⟩:=hs.pub 0;replace hs:=(hs.to [⟨zb,144,[iV ((ls.getD k lay0).k),qS AWx usx.length cWx,qS ABx ((ls.getD k lay0).B.length) cBx]⟩,⟨b7,197,[qS zd ((l1++[(qS Ax ((outq ls xs k).length) cx:Value)]).length) ze,qS zi ((l2++[(qS (sB za) usx.length usx.length:Value)]).length) zj,qS Ax ((outq ls xs k).length) cx]⟩,⟨b4,197,[sZ,sZ,sZ]⟩,⟨b1,74,[qS A ts.length cap]⟩] [⟨30,1,zd,ze,(l1++[(qS Ax ((outq ls xs k).length) cx:Value)]).length,(l1++[(qS Ax ((outq ls xs k).length) cx:Value)]).flatMap vc⟩,⟨30,1,zi,zj,(l2++[(qS (sB za) usx.length usx.length:Value)]).length,(l2++[(qS (sB za) usx.length usx.length:Value)]).flatMap vc⟩]).aS (SlO.of_flat (sz:=5) (f:=qc) (d:=0) (b:=zc) (o:=0) (l:=outq ls xs (k+1)) (fun _=>rfl) sg64);refine lV 80 (qS (sB zc) ((outq ls xs (k+1)).length) usx.length) ?_ (hr:=rval kR (by rw[←hll]));refine lL hs [.v 81 (qP b7 2)] (lP 1 2 ([qS (sB zc) ((outq ls xs (k+1)).length) usx.length]) hs (fun _ hs=>lN (kQ (lIn 82 ((k:Nat)+1) (k+1) ?_))));refine lL hs [.m 19 82] (lD ?_);intro a_ ka;replace hs:=(((hs.tl.tl.tl.tl.tl.tl.tl.tl.tl.tl.aS hs.f.1).add (K:=Qu (l2++[(qS (sB za) usx.length usx.length:Value)]) (sumsq ls xs (k+1))) (by rw[sumsq_succ];exact (hs.f.q.q.1).snoc ⟨_,usx.length,by rw[hlsq],Nat.le_of_eq hlsq,hs.f.r.1⟩)).add (K:=Qu (l1++[(qS Ax ((outq ls xs k).length) cx:Value)]) (insq ls xs (k+1))) (by rw[insq_succ];exact (hs.f.q.r.2.1).snoc ⟨_,_,rfl,hcx,hs.f.q.q.2.1⟩));replace hs:=hs.drop 1 0;refine ⟨_,_,?_,⟨k+1,zd,ze,zi,zj,l1++[(qS Ax ((outq ls xs k).length) cx:Value)],l2++[(qS (sB za) usx.length usx.length:Value)],sB zc,usx.length,zu,rfl,rfl,hs.to _ _,oM,(by simp;omega),(by simp;omega),oM⟩,ka.to _ kR⟩
  omega
 have zl:=oT zg;refine lB 35 zg (lN (cQ (cIT (cK (cQ (kZ (cSL (lL hs [.m 36 34] (lX 37 AWx usx.length cWx 1 (i:Nat) i ((hs.f.r.1).ok oM) ?_)))))))));obtain ⟨Arp,crp,erp,hcrp,hRrp⟩:=(hs.f.2.1).at_ i oM;replace hs:=hs.aS hRrp;refine lHe 38 (usx.getD i undef) hs ((hs.f.r.2.1).el i oM) erp (lL hs [.m 10 36,.m 11 38] (lNS (lL hs [.m 40 11,.v 41 (qP b7 2),.o 42 (qS Ax ((outq ls xs k).length) cx) 3 2 1] (lC 43 hs (fDotN Arp crp ((ls.getD k lay0).W.getD i []) Ax cx (outq ls xs k) (outq ls xs k).length _ _ rfl rfl (by rw[mtx.row i oM,hlx]) rfl 1000000 1000000 oM (dot_b1 (show (outq ls xs k).length≤20 by omega)) (hB.w k i) (hB.x k oM) _ _ hs.g hs.f.1 hs.f.q.r.1 hs.f.q.r.2.1) ?_))));rintro _ _ _ hs rfl;have hdt:LQ 41000000 (gD ls xs k i):=(LQ.dot (n:=(outq ls xs k).length) (fun j _=>hB.w k i j) (fun j _=>hB.x k oM j) _ (nR _)).mono (dot_b2 (show (outq ls xs k).length≤20 by omega));refine lL hs [.m 39 43,.v 44 (qv (gD ls xs k i)),.v 45 qT] (lA 12 55 ([qF,uV 0,eS,uV 0,eS]) hs (fun zm _ _ hs=>lP 0 0 (qc (gD ls xs k i)) hs (fun _ hs=>lL hs [.m 13 45] (lN (cQ (cR 9 [] mixed hs al_nil ?_))))));refine eV 0 46 (qS (sB za) usx.length usx.length) (eV 1 47 (nV i) (eO 2 48 [(0,0,5)] (qv (gD ls xs k i)) hs (eV 3 49 (qP zb 2) (eO 4 50 [(3,2,1)] (qS ABx ((ls.getD k lay0).B.length) cBx) hs (eV 5 51 (nV i) (eX 6 52 ABx ((ls.getD k lay0).B.length) cBx 5 (i:Nat) i ((hs.f.2.1).ok oM) (eH 7 53 (qv (((ls.getD k lay0).B).getD i 0)) hs ((hs.f.2.1).el i oM) ?_)))))));have hq82:=LQ.add hdt (hB.b k i);refine eC 8 54 hs (fun _ _ hs=>fAdd (gD ls xs k i) (((ls.getD k lay0).B).getD i 0) (LQ.mono hdt oM) (LQ.mono (hB.b k i) oM) _ _ hs.g hs.f.q.r.2.1) ?_;rintro _ _ _ _ _ hs rfl;refine eD0 hs (fun _ _ hs=>tX 9 55 (sB za) usx.length usx.length 5 (i:Nat) i rfl (tW 10 2 ql qc 5 i (gS ls xs k i) hs oM (fun _ hs=>?_)));have zp:((ql).set i (gS ls xs k i)).length=usx.length:=by rw[List.length_set];exact hlq
 replace hs:=hs.to [⟨zm,55,qc (gD ls xs k i)⟩,⟨zc,55,(pl).flatMap qc⟩,⟨za,55,((ql).set i (gS ls xs k i)).flatMap qc⟩,⟨zb,144,[iV ((ls.getD k lay0).k),qS AWx usx.length cWx,qS ABx ((ls.getD k lay0).B.length) cBx]⟩,⟨b7,197,[qS s1A ((l1).length) s1c,qS s2A ((l2).length) s2c,qS Ax ((outq ls xs k).length) cx]⟩,⟨b4,197,[sZ,sZ,sZ]⟩,⟨b1,74,[qS A ts.length cap]⟩] [⟨30,1,s1A,s1c,(l1).length,(l1).flatMap vc⟩,⟨30,1,s2A,s2c,(l2).length,(l2).flatMap vc⟩];refine tN (cR 9 [] mixed hs al_nil ?_);refine eV 0 56 (qS (sB zc) usx.length usx.length) (eV 1 57 (nV i) (eV 2 58 (pB zb) (eO 3 59 [(3,0,1)] (iV ((ls.getD k lay0).k)) hs (eV 4 60 (qS (sB za) usx.length usx.length) (eV 5 61 (nV i) (eX 6 62 (sB za) usx.length usx.length 5 (i:Nat) i rfl (eQ 7 63 2 ((ql).set i (gS ls xs k i)) qc 5 0 i (qv (((ql).set i (gS ls xs k i)).getD i 0)) hs oM (eC 8 64 hs (fun _ _ hs=>nAct _ kdx (((ql).set i (gS ls xs k i)).getD i 0) (by rw[getD_set_self oM];exact LQ.mono (LQ.add hdt (hB.b k i)) oM) _ _ hs.g hs.f.q.r.2.1) ?_))))))));rintro _ _ _ _ _ hs rfl;refine eD0 hs (fun _ zv hs=>tX 9 65 (sB zc) usx.length usx.length 5 (i:Nat) i rfl (tW 10 1 pl qc 5 i (act (ls.getD k lay0).k (((ql).set i (gS ls xs k i)).getD i 0)) hs oM (fun _ hs=>?_)));have zq:((pl).set i (act (ls.getD k lay0).k (((ql).set i (gS ls xs k i)).getD i 0))).length=usx.length:=by rw[List.length_set];exact hlp
 replace hs:=hs.to [⟨zm,55,qc (gD ls xs k i)⟩,⟨zc,55,((pl).set i (act (ls.getD k lay0).k (((ql).set i (gS ls xs k i)).getD i 0))).flatMap qc⟩,⟨za,55,((ql).set i (gS ls xs k i)).flatMap qc⟩,⟨zb,144,[iV ((ls.getD k lay0).k),qS AWx usx.length cWx,qS ABx ((ls.getD k lay0).B.length) cBx]⟩,⟨b7,197,[qS s1A ((l1).length) s1c,qS s2A ((l2).length) s2c,qS Ax ((outq ls xs k).length) cx]⟩,⟨b4,197,[sZ,sZ,sZ]⟩,⟨b1,74,[qS A ts.length cap]⟩] [⟨30,1,s1A,s1c,(l1).length,(l1).flatMap vc⟩,⟨30,1,s2A,s2c,(l2).length,(l2).flatMap vc⟩];refine tN (cTo [(4,pB b4),(5,pB b7),(17,qS A ts.length cap),(18,nV ts.length),(19,nV k),(7,pB zb),(8,qS (sB za) usx.length usx.length),(9,qS (sB zc) usx.length usx.length),(32,qS AWx usx.length cWx),(33,nV usx.length),(34,nV i)] ?_);refine kQ (lIn 66 ((i:Nat)+1) (i+1) ?_);refine lL hs [.m 34 66] (lD ?_);intro a_ ka;replace hs:=hs.tl;replace hs:=hs.drop 1 0;refine ⟨_,_,?_,⟨i+1,(ql).set i (gS ls xs k i),(pl).set i (act (ls.getD k lay0).k (((ql).set i (gS ls xs k i)).getD i 0)),zv,rfl,rfl,hs.to _ _,oM,zp,zq,(fstep hq oM rfl),(fstep hp oM (congrArg _ (getD_set_self oM)))⟩,ka.to _ kR⟩
 omega
def slq (k:Int)(x d:Rat):Rat:=if k=1 then d else if k=2 then (if 0<x then d else 0) else d/((((1:Int):Rat)+qabs x)*(((1:Int):Rat)+qabs x))
theorem num_pos' {x:Rat}:0<x↔0<x.num:=by rw[Rat.lt_iff];simp
theorem rep_zero {n:Nat}:∀ j,(List.replicate n (0:Rat)).getD j 0=0:=fun j=>by
  rw[List.getD_eq_getElem?_getD,List.getElem?_replicate];split<;>rfl
theorem dotq_zero (a b:List Rat)(h:∀ j,b.getD j 0=0):∀ n,dotq a b n=0
  | 0=>rfl
  | n+1=>by show dotq a b n+_*_=0;rw[dotq_zero a b h n,h,Rat.mul_zero,Rat.add_zero]
theorem chkFrom_ok {ls:List Lay}:∀ (n k:Nat),chkFrom ls k n=0→∀ i,k≤i→i<k+n→Fine ls i∧Kd ls i
  | 0,k,_,i,h1,h2=>absurd h2 oM
  | n + 1,k,h,i,h1,h2=>by
    unfold chkFrom at h
    split at h
    · rename_i hf
      split at h
      · rename_i hd
        by_cases e:i=k
        · subst e;exact ⟨hf,hd⟩
        · exact chkFrom_ok n (k+1) h i oM oM
      · exact absurd h kD
    · exact absurd h kD
def dOf (ls:List Lay)(i:Nat):Nat:=if i=0 then ((ls.getD 0 lay0).W.getD 0 []).length else (ls.getD (i-1) lay0).W.length
theorem chk_net3 {ls:List Lay}(h:chkq ls=0):Net3 ls (dOf ls):=by
  unfold chkq at h
  split at h
  · rename_i hl
    have H:=chkFrom_ok ls.length 0 h;refine ⟨hl,?_,fun i hi=>?_⟩
    · obtain ⟨⟨_,_,_,f4,_⟩,_⟩:=H 0 oM oM
      show (if 0=0 then _ else _)≤20
      rw[if_pos rfl];exact f4 rfl
    · obtain ⟨⟨f1,f2,f3,f4,f5⟩,k1,k2⟩:=H i oM oM
      obtain ⟨r1,r2,r3⟩:=f1;have e1:dOf ls (i+1)=(ls.getD i lay0).W.length:=by show (if i+1=0 then _ else _)=_;rw[if_neg oM];rfl
      have e2:((ls.getD i lay0).W.getD 0 []).length=dOf ls i:=by
        by_cases h0:i=0
        · subst h0;show _=(if 0=0 then _ else _);rw[if_pos rfl]
        · rw[f5 oM];show _=(if i=0 then _ else _);rw[if_neg h0]
      rw[e1];refine ⟨⟨rfl,r1,by rw[←e2];exact r2,fun j hj=>by rw[←e2];exact r3 j hj⟩,f3,f2,by omega⟩
  · exact absurd h kD
structure LaySz (L:Lay):Prop where
  rl:L.W.length≤8
  rls:∀ i,(L.W.getD i []).length≤8
  bl:L.B.length≤8
  w:∀ i j,LQ 1 ((L.W.getD i []).getD j 0)
  b:∀ i,LQ 1 (L.B.getD i 0)
  b4:L.B.length≤4
  w4:(L.W.getD 0 []).length≤4
theorem LaySz.fit {L:Lay}(h:LaySz L):LayFit L:=⟨by have:=h.rl;omega,fun i _=>by have:=h.rls i;omega,fun i _ j _=>(h.w i j).mono oM,by have:=h.bl;omega,fun i _=>(h.b i).mono oM⟩
theorem LaySz.len {L:Lay}(h:LaySz L):LayLen L:=⟨by have:=h.rl;omega,fun i _=>by have:=h.rls i;omega,by have:=h.bl;omega⟩
theorem lq0 {k:Nat}(h:1≤k):LQ k 0:=(LQ.lit (z:=0) kD).mono h
def grow:Nat→Nat
  | 0=>1
  | k+1=>16*grow k+40
theorem layq_lq {L:Lay}{x:List Rat}{m:Nat}(h:LaySz L)(hx:∀ j,LQ m (x.getD j 0))(hl:x.length≤8)(hm:1≤m)(j:Nat):LQ (16*m+40) ((layq L x).getD j 0):=by
  unfold layq
  by_cases hj:j<L.W.length
  · rw[List.getD_eq_getElem?_getD,List.getElem?_eq_getElem (by simpa using hj),List.getElem_map,List.getElem_range]
    show LQ _ (act _ _)
    have h1:=LQ.dot (n:=x.length) (fun i _=>h.w j i) (fun i _=>hx i) x.length (Nat.le_refl _)
    have h2:=(h1.add (h.b j)).mono (l:=8*m+19) (by
      have:x.length*(1+m+1)≤8*(1+m+1):=Nat.mul_le_mul_right _ hl
      omega)
    exact (LQ.act _ h2 oM).mono oM
  · rw[List.getD_eq_getElem?_getD,List.getElem?_eq_none (by simpa using hj)]
    exact lq0 oM
theorem outq_lq {ls:List Lay}{d:Nat→Nat}(o:Net3 ls d)(hL:∀ k,LaySz (ls.getD k lay0)){xs:List Rat}(hx:xs.length=d 0)(hq:∀ j,LQ 1 (xs.getD j 0)):∀ k,k≤ls.length→∀ j,LQ (grow k) ((outq ls xs k).getD j 0)
  | 0,_,j=>hq j
  | k + 1,hk,j=>by
    show LQ (16*grow k+40) ((layq _ _).getD j 0)
    refine layq_lq (hL k) (outq_lq o hL hx hq k oM) ?_ ?_ j
    · rw[outq_len o hx k oM]
      have h0:=(o.lay k oM).1.row 0 (o.lay k oM).1.rpos;have:=(hL k).rls 0
      omega
    · cases k with
      | zero=>exact Nat.le_refl _
      | succ k=>show 1≤16*grow k+40;omega
theorem grow_le (k:Nat)(h:k≤4):grow k≤1000000:=by
  have:k=0∨k=1∨k=2∨k=3∨k=4:=by omega
  rcases this with rfl|rfl|rfl|rfl|rfl<;>decide
theorem lay0_sz:LaySz lay0:=⟨by decide,fun i=>by simp[lay0],by decide,fun i j=>by simp[lay0];exact lq0 oM,fun i=>by simp[lay0];exact lq0 oM,by decide,by decide⟩
theorem netB {ls:List Lay}{d:Nat→Nat}(o:Net3 ls d)(hL:∀ k,LaySz (ls.getD k lay0)){xs:List Rat}(hx:xs.length=d 0)(hq:∀ j,LQ 1 (xs.getD j 0)):NetB ls xs :=
  ⟨fun k i j=>((hL k).w i j).mono oM,fun k i=>((hL k).b i).mono oM,fun k hk j=>(outq_lq o hL hx hq k hk j).mono (grow_le k (by have:=o.len.2;omega))⟩
noncomputable def ansE (ls:List Lay)(xs:List Rat):Int:=if chkq ls=0 then (if xs.length=dOf ls 0 then 0 else 5) else 1
noncomputable def ansL (ls:List Lay)(xs:List Rat):List Rat:=if chkq ls=0∧xs.length=dOf ls 0 then outq ls xs ls.length else []
theorem cmpR_self (a:Rat):cmpR a a=0:=by unfold cmpR cmpI;rw[if_neg oM,if_neg oM]
theorem ansE0 {ls:List Lay}{xs:List Rat}(h1:chkq ls=0)(h2:xs.length=dOf ls 0):ansE ls xs=0:=by unfold ansE;rw[if_pos h1,if_pos h2]
theorem ansE1 {ls:List Lay}{xs:List Rat}(h1:chkq ls≠0):ansE ls xs=1:=by unfold ansE;rw[if_neg h1]
theorem ansE5 {ls:List Lay}{xs:List Rat}(h1:chkq ls=0)(h2:xs.length≠dOf ls 0):ansE ls xs=5:=by unfold ansE;rw[if_pos h1,if_neg h2]
theorem ansL0 {ls:List Lay}{xs:List Rat}(h1:chkq ls=0)(h2:xs.length=dOf ls 0):ansL ls xs=outq ls xs ls.length:=by unfold ansL;rw[if_pos ⟨h1,h2⟩]
theorem ansL1 {ls:List Lay}{xs:List Rat}(h:¬(chkq ls=0∧xs.length=dOf ls 0)):ansL ls xs=[]:=by unfold ansL;rw[if_neg h]
theorem bneF' {a b:Int}(h:a=b):((a:Int) != (b:Int))=false:=by simpa using h
theorem nAnswer1 (A:Option Addr)(cap:Nat)(ts:List LV)(ls:List Lay)(hn:ls.length≤1000000)(hF:∀ i,i<ls.length→LayLen (ls.getD i lay0))(X:Option Addr)(c0:Nat)(xs:List Rat)(hc0:xs.length≤c0)(hB:chkq ls=0→xs.length=dOf ls 0→NetB ls xs)(h1:chkq ls≠0)(w:World)(h:Hp)(g:G w h)(hA:Sl A ts h)(hN:NetL h ts ls)(hX:Sq X xs h)(tb:Tab h):CR 81 #[.agg #[.slice A ts.length cap],.slice X xs.length c0] w h (fun v h1=>∃ A c,v=.tuple #[.slice A (ansL ls xs).length c,iV (ansE ls xs)]∧(ansL ls xs).length≤c∧Sq A (ansL ls xs) h1):=by
 have hs:=(((((sS g).aS hA).aN hN).aS hX).aB tb);refine go Tryz.func81 [(0,.agg #[qS A ts.length cap]),(1,qS X xs.length c0)] rfl (cSL (lA 2 74 ([qS A ts.length cap]) hs (fun b1 w2 h3 hs=>lL hs [.v 4 (sZ),.v 5 (iV 0)] (lN (cQ (cSL (lL hs [.o 6 (.agg #[qS A ts.length cap]) 0 0 1] (lC 7 hs (nCheckG A cap ts ls hn hF _ _ hs.g hs.f.r.2.1 hs.f.r.1) ?_))))))));rintro _ w4 h5 hs rfl;have hb6:((chkq ls:Int) != (0:Int))=true:=bneT h1;have phb6:=neOfBne hb6;exact lB 8 hb6 (lN (cIT (cSL (lL hs [.v 4 (sZ),.v 5 (iV 1)] (lN (kX (hs.ret [] (.tuple #[sZ,iV 1]) (⟨none,0,by rw[ansE1 h1,ansL1 (fun e=>h1 e.1)];rfl,by rw[ansL1 (fun e=>h1 e.1)];exact nR _,by rw[ansL1 (fun e=>h1 e.1)];exact SlO.nil⟩))))))))
theorem nAnswer5 (A:Option Addr)(cap:Nat)(ts:List LV)(ls:List Lay)(hn:ls.length≤1000000)(hF:∀ i,i<ls.length→LayLen (ls.getD i lay0))(X:Option Addr)(c0:Nat)(xs:List Rat)(hc0:xs.length≤c0)(hB:chkq ls=0→xs.length=dOf ls 0→NetB ls xs)(h1:chkq ls=0)(h2:xs.length≠dOf ls 0)(w:World)(h:Hp)(g:G w h)(hA:Sl A ts h)(hN:NetL h ts ls)(hX:Sq X xs h)(tb:Tab h):CR 81 #[.agg #[.slice A ts.length cap],.slice X xs.length c0] w h (fun v h1=>∃ A c,v=.tuple #[.slice A (ansL ls xs).length c,iV (ansE ls xs)]∧(ansL ls xs).length≤c∧Sq A (ansL ls xs) h1):=by
 have hs:=(((((sS g).aS hA).aN hN).aS hX).aB tb);refine go Tryz.func81 [(0,.agg #[qS A ts.length cap]),(1,qS X xs.length c0)] rfl (cSL (lA 2 74 ([qS A ts.length cap]) hs (fun b1 w2 h3 hs=>lL hs [.v 4 (sZ),.v 5 (iV 0)] (lN (cQ (cSL (lL hs [.o 6 (.agg #[qS A ts.length cap]) 0 0 1] (lC 7 hs (nCheckG A cap ts ls hn hF _ _ hs.g hs.f.r.2.1 hs.f.r.1) ?_))))))));rintro _ w4 h5 hs rfl;have hb6:((chkq ls:Int) != (0:Int))=false:=bneF' h1;have phb6:=eqOfBne hb6;refine lB 8 hb6 (lN (cIF (cK (cQ (cSL (lL hs [.o 9 (.agg #[qS A ts.length cap]) 0 0 1,.m 10 1] (lC 11 hs (nSuitsF A cap ts ls (dOf ls) (chk_net3 h1) X c0 xs h2 _ _ hs.g hs.f.r.2.1 hs.f.r.1 hs.f.2.1) ?_)))))));rintro _ w7 h8 hs rfl;exact lL hs [.v 12 qT] (lN (cIT (cSL (lL hs [.v 4 (sZ),.v 5 (iV 5)] (lN (kX (hs.ret [] (.tuple #[sZ,iV 5]) (⟨none,0,by rw[ansE5 h1 h2,ansL1 (fun e=>h2 e.2)];rfl,by rw[ansL1 (fun e=>h2 e.2)];exact nR _,by rw[ansL1 (fun e=>h2 e.2)];exact SlO.nil⟩))))))))
theorem nAnswer0 (A:Option Addr)(cap:Nat)(ts:List LV)(ls:List Lay)(hn:ls.length≤1000000)(hF:∀ i,i<ls.length→LayLen (ls.getD i lay0))(X:Option Addr)(c0:Nat)(xs:List Rat)(hc0:xs.length≤c0)(hB:chkq ls=0→xs.length=dOf ls 0→NetB ls xs)(h1:chkq ls=0)(h2:xs.length=dOf ls 0)(w:World)(h:Hp)(g:G w h)(hA:Sl A ts h)(hN:NetL h ts ls)(hX:Sq X xs h)(tb:Tab h):CR 81 #[.agg #[.slice A ts.length cap],.slice X xs.length c0] w h (fun v h1=>∃ A c,v=.tuple #[.slice A (ansL ls xs).length c,iV (ansE ls xs)]∧(ansL ls xs).length≤c∧Sq A (ansL ls xs) h1):=by
 have hs:=(((((sS g).aS hA).aN hN).aS hX).aB tb);refine go Tryz.func81 [(0,.agg #[qS A ts.length cap]),(1,qS X xs.length c0)] rfl (cSL (lA 2 74 ([qS A ts.length cap]) hs (fun b1 w2 h3 hs=>lL hs [.v 4 (sZ),.v 5 (iV 0)] (lN (cQ (cSL (lL hs [.o 6 (.agg #[qS A ts.length cap]) 0 0 1] (lC 7 hs (nCheckG A cap ts ls hn hF _ _ hs.g hs.f.r.2.1 hs.f.r.1) ?_))))))));rintro _ w4 h5 hs rfl;have hb6:((chkq ls:Int) != (0:Int))=false:=bneF' h1;have phb6:=eqOfBne hb6;refine lB 8 hb6 (lN (cIF (cK (cQ (cSL (lL hs [.o 9 (.agg #[qS A ts.length cap]) 0 0 1,.m 10 1] (lC 11 hs (nSuitsT A cap ts ls (dOf ls) (chk_net3 h1) X c0 xs h2 _ _ hs.g hs.f.r.2.1 hs.f.r.1 hs.f.2.1) ?_)))))));rintro _ w7 h8 hs rfl;refine lL hs [.v 12 qF] (lN (cIF (cK (cSL (lL hs [.o 13 (.agg #[qS A ts.length cap]) 0 0 1,.m 14 1] (lC 15 hs (nForward A cap ts ls (dOf ls) (chk_net3 h1) X c0 xs h2 hc0 (hB h1 h2) _ _ hs.g hs.f.r.2.1 hs.f.r.1 hs.f.2.1 hs.f.1) ?_))))));rintro _ w9 _ hs ⟨A1,c1,u1,A2,c2,u2,Ax,cx,rfl,-,-,hcx,-,-,-,-,hXk⟩;replace hs:=hs.aS hXk;exact lL hs [.v 16 (qS Ax ((outq ls xs ls.length).length) cx),.m 4 16,.v 5 (iV 0)] (lN (kX (hs.ret [] (.tuple #[qS Ax ((outq ls xs ls.length).length) cx,iV 0]) (⟨_,_,by rw[ansE0 h1 h2,ansL0 h1 h2],by rw[ansL0 h1 h2];exact hcx,by rw[ansL0 h1 h2];exact hs.f.1⟩))))
theorem nAnswer (A:Option Addr)(cap:Nat)(ts:List LV)(ls:List Lay)(hn:ls.length≤1000000)(hF:∀ i,i<ls.length→LayLen (ls.getD i lay0))(X:Option Addr)(c0:Nat)(xs:List Rat)(hc0:xs.length≤c0)(hB:chkq ls=0→xs.length=dOf ls 0→NetB ls xs)(w:World)(h:Hp)(g:G w h)(hA:Sl A ts h)(hN:NetL h ts ls)(hX:Sq X xs h)(tb:Tab h):Calls Tryz.prog 81 #[.agg #[.slice A ts.length cap],.slice X xs.length c0] w (Ret w h (fun v h1=>∃ A c,v=.tuple #[.slice A (ansL ls xs).length c,iV (ansE ls xs)]∧(ansL ls xs).length≤c∧Sq A (ansL ls xs) h1)):=by
  by_cases h1:chkq ls=0
  · by_cases h2:xs.length=dOf ls 0
    · exact nAnswer0 A cap ts ls hn hF X c0 xs hc0 hB h1 h2 w h g hA hN hX tb
    · exact nAnswer5 A cap ts ls hn hF X c0 xs hc0 hB h1 h2 w h g hA hN hX tb
  · exact nAnswer1 A cap ts ls hn hF X c0 xs hc0 hB h1 w h g hA hN hX tb
section fut
variable {P:Program} {n:Nat} {N R:Po} {X:Nat→Po} {ops:Array Oper} {k0 K:Nat} {L:Array Bool} {Γ:Env} {w:World} {h:Hp} {w0:World} {h0:Hp} {B:List Bx} {Rs:List Rw} {F:List (Hp→Prop)}
end fut
theorem getD_drop_ {α:Type}{l:List α}{n i:Nat}{d:α}:(l.drop n).getD i d=l.getD (n+i) d:=by simp[List.getD_eq_getElem?_getD]
theorem getD_app_ {α:Type}{a b:List α}{i:Nat}{d:α}:(a++b).getD i d=if i<a.length then a.getD i d else b.getD (i-a.length) d:=by
  simp only[List.getD_eq_getElem?_getD,List.getElem?_append];split<;>rfl
theorem getD_set_ {α:Type}{l:List α}{n i:Nat}{d x:α}(h:n<l.length):(l.set n x).getD i d=if i=n then x else l.getD i d:=by
  split
  · rename_i e;subst e;simp[h]
  · rename_i e;rw[List.getD_eq_getElem?_getD,List.getElem?_set_ne (Ne.symm e),←List.getD_eq_getElem?_getD]
structure LayS4 (L:Lay):Prop where
  rl:L.W.length≤4
  rls:∀ i,(L.W.getD i []).length≤4
  bl:L.B.length≤4
  w:∀ i j,LQ 1 ((L.W.getD i []).getD j 0)
  b:∀ i,LQ 1 (L.B.getD i 0)
theorem LayS4.sz {L:Lay}(h:LayS4 L):LaySz L:=⟨by have:=h.rl;omega,fun i=>by have:=h.rls i;omega,by have:=h.bl;omega,h.w,h.b,h.bl,h.rls 0⟩
def flatL (L:Lay):List Rat:=L.W.flatten++L.B
def flatq (ls:List Lay):List Rat:=ls.flatMap flatL
theorem flatq_snoc (ls:List Lay)(L:Lay):flatq (ls++[L])=flatq ls++L.W.flatten++L.B:=by simp[flatq,flatL]
theorem flatq_take {ls:List Lay}{k:Nat}(h:k<ls.length):flatq (ls.take (k+1))=flatq (ls.take k)++(ls.getD k lay0).W.flatten++(ls.getD k lay0).B:=by rw[take_snoc' lay0 h,flatq_snoc]
theorem flat_take {W:List (List Rat)}{i:Nat}(h:i<W.length):(W.take (i+1)).flatten=(W.take i).flatten++W.getD i []:=by rw[take_snoc' [] h];simp
theorem flat_len {c:Nat}:∀ {W:List (List Rat)},(∀ r∈W,r.length=c)→W.flatten.length=W.length*c
  | [],_=>by simp
  | r::W,h=>by
    rw[List.flatten_cons,List.length_append,h r (by simp),flat_len (fun s hs=>h s (by simp[hs])),List.length_cons,Nat.succ_mul];omega
theorem getD_mem' {α:Type}{l:List α}{x d:α}(h:x∈l):∃ i,i<l.length∧l.getD i d=x:=by
  obtain ⟨i,hi,e⟩:=List.mem_iff_getElem.1 h;exact ⟨i,hi,by simp[hi,e]⟩
theorem Mat.mem {W:List (List Rat)}{r c:Nat}(m:Mat W r c):∀ x∈W,x.length=c:=fun x hx=>by
  obtain ⟨i,hi,e⟩:=getD_mem' (d:=[]) hx;rw[←e];exact m.row i (by rw[←m.rows];exact hi)
theorem take_flat_len {W:List (List Rat)}{r c:Nat}(m:Mat W r c)(i:Nat)(hi:i≤r):(W.take i).flatten.length=i*c:=by
  rw[flat_len (c:=c) (fun x hx=>m.mem x (List.mem_of_mem_take hx)),List.length_take,m.rows];congr 1;omega
theorem flatq_len {ls:List Lay}{d:Nat→Nat}(o:Net3 ls d)(k:Nat)(hk:k≤ls.length):(flatq (ls.take k)).length≤k*252:=by
  induction k with
  | zero=>simp[flatq]
  | succ k ih =>
    have h1:=ih oM;obtain ⟨m,hb,h12,_⟩:=o.lay k oM;have hc:=o.small k oM;rw[flatq_take oM,List.length_append,List.length_append,flat_len m.mem,m.rows,hb];have:d (k+1)*d k≤12*20:=Nat.mul_le_mul h12 hc
    omega
theorem nflat (A:Option Addr)(cap:Nat)(ts:List LV)(ls:List Lay)(d:Nat→Nat)(hO:Net3 ls d)(w:World)(h:Hp)(g:G w h)(hA:Sl A ts h)(hN:NetL h ts ls):CR 73 #[.agg #[.slice A ts.length cap]] w h (fun v h1=>∃ A c,v=.slice A (flatq ls).length c∧(flatq ls).length≤c∧Sq A (flatq ls) h1):=by
 have hs:=(((sS g).aS hA).aN hN);have hl:=(hs.f.1).len;obtain ⟨o1,o2⟩:=hO.len;have o3:=hO.first;refine go Tryz.func73 [(0,.agg #[qS A ts.length cap])] rfl (cSL (lA 1 74 ([qS A ts.length cap]) hs (fun b1 w2 h3 hs=>lL hs [.v 2 (sZ)] (lNS (lL hs [.v 3 (sZ)] (lN (cQ (cSL (lL hs [.v 8 (pB b1),.o 9 (qS A ts.length cap) 0 0 1,.v 10 (nV ts.length),.v 11 (iV 0)] (lN (kZ ?_)))))))))));replace hs:=hs.nil 55 5;refine cTo [(2,sZ),(9,qS A ts.length cap),(10,nV ts.length),(11,iV 0),(3,sZ)] ?_;refine CG.loop (fun μ_ Γ w_=>∃ (k:Nat) (saA:Option Addr) (sac:Nat) (al:List Rat) (h_:Hp),μ_=ls.length-k∧Γ=[(2,sZ),(9,qS A ts.length cap),(10,nV ts.length),(11,nV k),(3,qS saA ((al).length) sac)]∧SS w h w_ h_ [⟨b1,74,[qS A ts.length cap]⟩] [⟨55,5,saA,sac,(al).length,(al).flatMap qc⟩] [Nn ts ls,Sl A ts]∧k≤ls.length∧al=flatq (ls.take k)) _ ⟨0,none,0,[],h3,rfl,rfl,hs.to _ _,Nat.zero_le _,rfl⟩ ?_;rintro _ _ w4 ⟨k,saA,sac,al,h5,hm6,rfl,hs,hk,hal⟩;have hsm:=fun h0=>hO.small k h0
 have hfl:=flatq_len hO k hk;rw[←hal] at hfl
 refine cSL ?_;cases hb7:(decide ((k:Int)<(ts.length:Int)))
 ·
  have phb7:=oF hb7;refine lB 12 hb7 (lN (cQ (cIF (CG.exit ?_))))
  show CG _ _ _ _ _ _ _ _
  refine cSL (lL hs [.m 31 3,.m 2 31] (lN (kX ?_)));have hkn:k=ls.length:=by omega
  subst hkn;rw[List.take_length] at hal
  obtain ⟨h8,hs,hc9⟩:=hs.pubr 0 (A:=saA) (c:=sac) (l:=al) (f:=qc) (ty:=55) (sz:=5) 0 (fun _=>rfl);exact hs.ret [] (qS saA ((al).length) sac) (by rw[←hal];exact ⟨_,_,rfl,hc9,hs.f.1⟩)
 have phb7:=oT hb7;refine lB 12 hb7 (lN (cQ (cIT (cK (cQ (kZ (cSL (lX 13 A ts.length cap 3 (k:Nat) k ((hs.f.2.1).ok oM) ?_))))))));obtain ⟨ekx,⟨AWx,cWx,usx,eWx,hcWx,hAWx,hUx⟩,⟨ABx,cBx,eBx,hcBx,hABx⟩⟩:=(hs.f.1).at_ k oM;obtain ⟨mtx,lbx,r12x,kdx⟩:=hO.lay k oM;have lux:=hUx.len;have mrx:=mtx.rows;have mpx:=mtx.rpos;have mcx:=mtx.cpos;have m0x:=mtx.row 0 oM;replace hs:=(((hs.aS hAWx).aQ hUx).aS hABx);refine lHe 14 (.agg #[iV ((ts.getD k lvd).1),(ts.getD k lvd).2.1,(ts.getD k lvd).2.2]) hs ((hs.f.q.1).el k oM) (by rw[ekx,eWx,eBx]) (lA 5 144 ([iV 0,sZ,sZ]) hs (fun zb _ zd hs=>lP 0 0 ([iV ((ls.getD k lay0).k),qS AWx usx.length cWx,qS ABx ((ls.getD k lay0).B.length) cBx]) hs (fun _ hs=>lN (cQ (cSL (lL hs [.v 15 (qP zb 1),.o 16 (qS AWx usx.length cWx) 0 1 1,.v 17 (nV usx.length),.v 18 (iV 0)] (lN (kZ ?_))))))));refine cTo _ (CG.loop (fun μ_ Γ w_=>∃ (i:Nat) (sbA:Option Addr) (sbc:Nat) (bl:List Rat) (h_:Hp),μ_=usx.length-i∧Γ=[(2,sZ),(9,qS A ts.length cap),(10,nV ts.length),(11,nV k),(5,pB zb),(16,qS AWx usx.length cWx),(17,nV usx.length),(18,nV i),(3,qS sbA ((bl).length) sbc)]∧SS w h w_ h_ [⟨zb,144,[iV ((ls.getD k lay0).k),qS AWx usx.length cWx,qS ABx ((ls.getD k lay0).B.length) cBx]⟩,⟨b1,74,[qS A ts.length cap]⟩] [⟨55,5,sbA,sbc,(bl).length,(bl).flatMap qc⟩] [Sq ABx (ls.getD k lay0).B,Qu usx (ls.getD k lay0).W,Sv AWx usx,Nn ts ls,Sl A ts]∧i≤usx.length∧bl=al++((ls.getD k lay0).W.take i).flatten) _ ⟨0,saA,sac,al,zd,rfl,rfl,hs.to _ _,Nat.zero_le _,by simp⟩ ?_);rintro _ _ _ ⟨i,sbA,sbc,bl,_,hm17,rfl,hs,hi,hbl⟩;have hbn:bl.length≤al.length+i*d k:=by rw[hbl,List.length_append,take_flat_len mtx i oM];exact nR _
 have hid:i*d k≤12*20:=Nat.mul_le_mul oM (hsm oM);have hmr:=fun h0=>mtx.row i h0
 refine cSL ?_;cases za:(decide ((i:Int)<(usx.length:Int)))
 ·
  have zc:=oF za;refine lB 19 za (lN (cQ (cIF (CG.exit ?_))))
  show CG _ _ _ _ _ _ _ _
  refine kQ (lL hs [.m 26 3,.v 27 (qP zb 2),.o 28 (qS ABx ((ls.getD k lay0).B.length) cBx) 0 2 1] (lYs 29 0 55 5 sbc sbA bl qc 0 ABx ((ls.getD k lay0).B) cBx 56 (.agg #[qF,uV 0,eS,uV 0,eS]) hs hs.f.1 oM (fun ze zf _ zg hs=>lL hs [.m 3 29] (lN (kQ (lIn 30 ((k:Nat)+1) (k+1) ?_))))));refine lL hs [.m 11 30] (lD ?_);intro a_ ka;replace hs:=hs.tl.tl.tl;replace hs:=hs.drop 1 0;refine ⟨_,_,?_,⟨k+1,ze,zf,bl++((ls.getD k lay0).B),zg,rfl,rfl,hs.to _ _,oM,(by rw[flatq_take oM,hbl,List.take_of_length_le oM,hal])⟩,ka.to _ kR⟩
  omega
 have zc:=oT za;refine lB 19 za (lN (cQ (cIT (cK (cQ (kZ (cSL (lX 20 AWx usx.length cWx 1 (i:Nat) i ((hs.f.r.1).ok oM) ?_))))))));obtain ⟨Arp,crp,erp,hcrp,hRrp⟩:=(hs.f.2.1).at_ i oM;replace hs:=hs.aS hRrp;refine lHe 21 (usx.getD i undef) hs ((hs.f.r.2.1).el i oM) erp (lL hs [.m 7 21] (lN (kQ (lL hs [.m 22 3,.m 23 7] (lYs 24 0 55 5 sbc sbA bl qc 0 Arp (((ls.getD k lay0).W).getD i []) crp 56 (.agg #[qF,uV 0,eS,uV 0,eS]) hs hs.f.1 oM (fun zi zj _ zk hs=>lL hs [.m 3 24] (lN (kQ (lIn 25 ((i:Nat)+1) (i+1) ?_)))))))));refine lL hs [.m 18 25] (lD ?_);intro a_ ka;replace hs:=hs.tl;refine ⟨_,_,?_,⟨i+1,zi,zj,bl++(((ls.getD k lay0).W).getD i []),zk,rfl,rfl,hs.to _ _,oM,(by rw[flat_take oM,hbl,List.append_assoc])⟩,ka.to _ kR⟩
 omega
theorem nFlat0 (A:Option Addr)(cap:Nat)(ts:List LV)(ls:List Lay)(hn:ls.length≤1000000)(hF:∀ i,i<ls.length→LayLen (ls.getD i lay0))(h1:chkq ls=0)(w:World)(h:Hp)(g:G w h)(hA:Sl A ts h)(hN:NetL h ts ls):CR 39 #[.agg #[.slice A ts.length cap]] w h (fun v h1=>∃ A c,v=.slice A (flatq ls).length c∧(flatq ls).length≤c∧Sq A (flatq ls) h1):=by
 have hs:=(((sS g).aS hA).aN hN);refine go Tryz.func39 [(0,.agg #[qS A ts.length cap])] rfl (cSL (lA 1 74 ([qS A ts.length cap]) hs (fun b1 w2 h3 hs=>lL hs [.v 2 (sZ)] (lN (cQ (cSL (lL hs [.o 3 (.agg #[qS A ts.length cap]) 0 0 1] (lC 4 hs (nCheckG A cap ts ls hn hF _ _ hs.g hs.f.2.1 hs.f.1) ?_))))))));rintro _ w4 h5 hs rfl;have hb6:((chkq ls:Int) != (0:Int))=false:=bneF' h1;have phb6:=eqOfBne hb6;refine lB 5 hb6 (lN (cIF (cK (cSL (lL hs [.o 6 (.agg #[qS A ts.length cap]) 0 0 1] (lC 7 hs (nflat A cap ts ls (dOf ls) (chk_net3 h1) _ _ hs.g hs.f.2.1 hs.f.1) ?_))))));rintro _ w7 h8 hs ⟨Aq,cq,rfl,hcq,hAq⟩;replace hs:=hs.aS hAq;exact lL hs [.m 2 7] (lN (kX (hs.ret [] (qS Aq ((flatq ls).length) cq) (⟨Aq,cq,rfl,hcq,hs.f.1⟩))))
section fla
variable {P:Program} {n:Nat} {N R:Po} {X:Nat→Po} {ops:Array Oper} {k:Nat} {Γ:Env} {w:World} {h:Hp} {w0:World} {h0:Hp} {B:List Bx} {Rs:List Rw} {F:List (Hp→Prop)}
end fla
section prt
variable {M:Ms} {P:Program} {n:Nat} {N R:Po} {X:Nat→Po} {ops:Array Oper} {k k0:Nat} {hr:Hp} {AL:List Al} {L:Array Bool} {Γ:Env} {w:World} {h:Hp}
end prt
theorem getD_outR {α:Type}{l:List α}{i:Nat}{d:α}(h:l.length≤i):l.getD i d=d:=by rw[List.getD_eq_getElem?_getD,List.getElem?_eq_none h];rfl
def powN (a:Rat):Nat→Rat
  | 0=>((1:Int):Rat)
  | k+1=>powN a k*a
theorem powN_nz {a:Rat}(h:a≠0):∀ k,powN a k≠0
  | 0=>by show ((1:Int):Rat)≠0;decide
  | k+1=>by show powN a k*a≠0;have:=powN_nz h k;grind
theorem powN_zero {k:Nat}(h:0<k):powN 0 k=0:=by
  obtain ⟨j,rfl⟩:∃ j,k=j+1:=⟨k-1,by omega⟩
  show powN 0 j*0=0;rw[Rat.mul_zero]
def powq (a:Rat)(n:Int):Rat:=if 0≤n then powN a n.natAbs else ((1:Int):Rat)/powN a n.natAbs
def minR (a b:Rat):Rat:=if b<a then b else a
def opv (op n:Int)(q a b:Rat):Rat :=
  if op=1 then q else if op=3 then a+b else if op=4 then a-b else if op=5 then a*b else if op=6 then a/b else if op=7 then -a
  else if op=8 then powq a n else if op=9 then qabs a else if op=10 then maxR a 0 else if op=11 then a/(qabs a+((1:Int):Rat)) else if op=12 then maxR a b else minR a b
def okq (op n:Int)(a b:Rat):Prop:=(op=6→b≠0)∧(op=8→n<0→a≠0)
instance (op n:Int) (a b:Rat):Decidable (okq op n a b):=by unfold okq;infer_instance
def knk (op:Int)(a b:Rat):Prop:=(op=9∨op=10)∧a=0∨(op=12∨op=13)∧a=b
instance (op:Int) (a b:Rat):Decidable (knk op a b):=by unfold knk;infer_instance
def sval (s:Stp)(at_ v:List Rat):Rat:=if s.op=2 then at_.getD s.n.toNat 0 else opv s.op s.n s.q (v.getD s.a.toNat 0) (v.getD s.b.toNat 0)
def tvals (l:List Stp)(at_:List Rat):Nat→List Rat
  | 0=>[]
  | k+1=>tvals l at_ k++[sval (l.getD k stp0) at_ (tvals l at_ k)]
theorem tvals_len (l:List Stp)(at_:List Rat):∀ k,(tvals l at_ k).length=k
  | 0=>rfl
  | k+1=>by show (tvals l at_ k++[_]).length=_;rw[List.length_append,tvals_len l at_ k];rfl
def serr (sm:Bool)(s:Stp)(v:List Rat):Int:=if s.op=2 then 0 else if okq s.op s.n (v.getD s.a.toNat 0) (v.getD s.b.toNat 0) then (if sm=true∧knk s.op (v.getD s.a.toNat 0) (v.getD s.b.toNat 0) then 7 else 0) else 6
def terr (sm:Bool)(l:List Stp)(at_:List Rat):Nat→Int
  | 0=>0
  | k+1=>if terr sm l at_ k=0 then serr sm (l.getD k stp0) (tvals l at_ k) else terr sm l at_ k
theorem terr_bad {sm:Bool}{l:List Stp}{at_:List Rat}{k:Nat}(h:terr sm l at_ k≠0):∀ j,terr sm l at_ (k+j)=terr sm l at_ k
  | 0=>rfl
  | j+1=>by
    have e:=terr_bad h j
    show (if terr sm l at_ (k+j)=0 then serr sm (l.getD (k+j) stp0) (tvals l at_ (k+j)) else terr sm l at_ (k+j))=_
    rw[e,if_neg h]
theorem terr_stop {sm:Bool}{l:List Stp}{at_:List Rat}{k n:Nat}(h0:terr sm l at_ k=0)(hk:k<n)(h:serr sm (l.getD k stp0) (tvals l at_ k)≠0):terr sm l at_ n=serr sm (l.getD k stp0) (tvals l at_ k):=by
  have e:terr sm l at_ (k+1)=serr sm (l.getD k stp0) (tvals l at_ k):=by show (if _=0 then _ else _)=_;rw[if_pos h0]
  obtain ⟨j,rfl⟩:∃ j,n=k+1+j:=⟨n-(k+1),by omega⟩;rw[terr_bad (by rw[e];exact h),e]
theorem terr_step {sm:Bool}{l:List Stp}{at_:List Rat}{k:Nat}(h0:terr sm l at_ k=0)(h:serr sm (l.getD k stp0) (tvals l at_ k)=0):terr sm l at_ (k+1)=0:=by
  show (if _=0 then _ else _)=_;rw[if_pos h0];exact h
def pickL (v:List Rat)(os:List Int):List Rat:=os.map fun o=>v.getD o.toNat 0
def sla (op n:Int)(a b:Rat):Rat :=
  if op=3 then ((1:Int):Rat) else if op=4 then ((1:Int):Rat) else if op=5 then b else if op=6 then ((1:Int):Rat)/b else if op=7 then -((1:Int):Rat)
  else if op=8 then (if n=0 then 0 else powq a (n-1)*((n:Int):Rat)) else if op=9 then ((a.num.sign:Int):Rat) else if op=10 then ((max a.num.sign 0:Int):Rat)
  else if op=11 then (((1:Int):Rat)/(((1:Int):Rat)+qabs a))*(((1:Int):Rat)/(((1:Int):Rat)+qabs a))
  else if op=12 then (if b<a then ((1:Int):Rat) else 0) else if op=13 then (if b<a then 0 else ((1:Int):Rat)) else 0
def slb (op:Int)(a b:Rat):Rat :=
  if op=3 then ((1:Int):Rat) else if op=4 then -((1:Int):Rat) else if op=5 then a else if op=6 then -(a*(((1:Int):Rat)/b)*(((1:Int):Rat)/b))
  else if op=12 then (if b<a then 0 else ((1:Int):Rat)) else if op=13 then (if b<a then ((1:Int):Rat) else 0) else 0
def sder (s:Stp)(way v d:List Rat):Rat :=
  if s.op=2 then way.getD s.n.toNat 0
  else (if 0<ari s.op then sla s.op s.n (v.getD s.a.toNat 0) (v.getD s.b.toNat 0)*d.getD s.a.toNat 0 else 0)+(if 1<ari s.op then slb s.op (v.getD s.a.toNat 0) (v.getD s.b.toNat 0)*d.getD s.b.toNat 0 else 0)
def tders (l:List Stp)(at_ way:List Rat):Nat→List Rat
  | 0=>[]
  | k+1=>tders l at_ way k++[sder (l.getD k stp0) way (tvals l at_ k) (tders l at_ way k)]
theorem tders_len (l:List Stp)(at_ way:List Rat):∀ k,(tders l at_ way k).length=k
  | 0=>rfl
  | k+1=>by show (tders l at_ way k++[_]).length=_;rw[List.length_append,tders_len l at_ way k];rfl
theorem sign_bd (z:Int) : -1≤z.sign∧z.sign≤1:=by
  rcases Int.lt_trichotomy z 0 with h|h|h
  · rw[Int.sign_eq_neg_one_of_neg h];decide
  · rw[h];decide
  · rw[Int.sign_eq_one_of_pos h];decide
theorem num_nz {a:Rat}(h:a≠0):a.num≠0:=fun e=>h (by rw[←Rat.num_eq_zero];exact e)
theorem lq_powN {a:Rat}{K:Nat}(h:LQ K a):∀ k,LQ (k*K+1) (powN a k)
  | 0=>LQ.mono (k:=1) (LQ.lit (z:=1) kD) oM
  | k+1=>((lq_powN h k).mul h).mono (by rw[Nat.add_mul];omega)
theorem lq_powq {a:Rat}{K:Nat}{n:Int}(hK:1≤K)(h:LQ K a)(hn : -13≤n∧n≤13):LQ (13*K+2) (powq a n):=by
  have h1:=lq_powN h n.natAbs;have h2:n.natAbs*K≤13*K:=Nat.mul_le_mul_right _ oM
  unfold powq
  split
  · exact h1.mono oM
  · exact ((LQ.lit (z:=1) kD).div h1).mono oM
theorem fDivB (a b:Rat)(hb:b=0)(w:World)(h:Hp)(g:G w h):CV 114 #[qv a,qv b] w h (.tuple #[qv 0,.bool false]):=by
  subst hb;exact fDivZ a (lq0 oM) w h g
theorem abs_one_ne (u:Rat):(qabs u+((1:Int):Rat)).num≠0:=by rw[Rat.add_comm];exact one_abs_ne u
theorem knk_1 {op:Int}{a b:Rat}(h:op=9∨op=10):(a.num.sign == (0:Int))=decide (knk op a b):=by
  have e:a.num.sign=0↔a=0:=by rw[Int.sign_eq_zero_iff_zero,Rat.num_eq_zero]
  by_cases h0:a=0
  · rw[decide_eq_true (show knk op a b from .inl ⟨h,h0⟩)];simpa using e.2 h0
  · rw[decide_eq_false (show ¬knk op a b from fun x=>by rcases x with x|x;exact h0 x.2;omega)]
    simpa using fun h1=>h0 (e.1 h1)
theorem cmpR_eq {a b:Rat}:cmpR a b=0↔a=b:=by
  constructor
  · intro h
    have h1:¬a<b:=fun x=>by have:=cmpR_lt.2 x;omega
    have h2:¬b<a:=fun x=>by have:=cmpR_gt.2 x;omega
    grind
  · intro h;subst h
    have h1:¬cmpR a a<0:=fun x=>by have:=cmpR_lt.1 x;grind
    have h2:¬cmpR a a>0:=fun x=>by have:=cmpR_gt.1 x;grind
    omega
theorem knk_2 {op:Int}{a b:Rat}(h:op=12∨op=13):(cmpR a b == (0:Int))=decide (knk op a b):=by
  by_cases h0:a=b
  · rw[decide_eq_true (show knk op a b from .inr ⟨h,h0⟩)];simpa using cmpR_eq.2 h0
  · rw[decide_eq_false (show ¬knk op a b from fun x=>by rcases x with x|x;omega;exact h0 x.2)]
    simpa using fun h1=>h0 (cmpR_eq.1 h1)
theorem knk_0 {op:Int}{a b:Rat}(h:¬(op=9∨op=10∨op=12∨op=13)):false=decide (knk op a b):=by
  rw[decide_eq_false (show ¬knk op a b from fun x=>by rcases x with x|x<;>omega)]
theorem slm_29 {op n:Int}{a b:Rat}(h:op=12∨op=13)(hc:0<cmpR a b∧op=12∨¬0<cmpR a b∧op=13):Value.tuple #[qv ((1:Int):Rat),qv 0]=.tuple #[qv (sla op n a b),qv (slb op a b)]:=by
  rcases hc with ⟨h1,rfl⟩|⟨h1,rfl⟩
  · have h2:b<a:=cmpR_gt.1 h1
    unfold sla slb;simp[h2]
  · have h2:¬b<a:=fun x=>h1 (cmpR_gt.2 x)
    unfold sla slb;simp[h2]
theorem slm_30 {op n:Int}{a b:Rat}(h:op=12∨op=13)(hc:0<cmpR a b∧op=13∨¬0<cmpR a b∧op=12):Value.tuple #[qv 0,qv ((1:Int):Rat)]=.tuple #[qv (sla op n a b),qv (slb op a b)]:=by
  rcases hc with ⟨h1,rfl⟩|⟨h1,rfl⟩
  · have h2:b<a:=cmpR_gt.1 h1
    unfold sla slb;simp[h2]
  · have h2:¬b<a:=fun x=>h1 (cmpR_gt.2 x)
    unfold sla slb;simp[h2]
theorem fMin (a b:Rat)(ha:LQ 100000000 a)(hb:LQ 100000000 b)(w:World)(h:Hp)(g:G w h):CV 152 #[qv a,qv b] w h (qv (minR a b)):=by
 have hs:=sS g;refine go Tryz.func152 [(0,qv a),(1,qv b)] rfl (cSL (lA 2 55 (qc a) hs (fun b1 w2 h3 hs=>lA 3 55 (qc b) hs (fun b4 w5 h6 hs=>lA 4 55 ([qF,uV 0,eS,uV 0,eS]) hs (fun b7 w8 h9 hs=>lN (cQ (cSL (lL hs [.o 5 (qv b) 1 0 5,.o 6 (qv a) 2 0 5] (lC 7 hs (fCmp b a (LQ.mono hb oM) (LQ.mono ha oM) _ _ hs.g) ?_)))))))));rintro _ _ _ hs rfl;cases za:(decide ((cmpR b a:Int)<(0:Int)))
 ·
  have zb:=oF za;exact lB 8 za (lN (cIF (cK (cSL (lL hs [.o 10 (qv a) 2 0 5] (lP 0 0 (qc a) hs (fun _ hs=>lN (kX (hs.ret [(0,0,5)] (qv a) (by unfold minR;rw[if_neg (fun h_=>by have:=cmpR_lt.2 h_;omega)]))))))))))
 have zb:=oT za;exact lB 8 za (lN (cIT (cSL (lL hs [.o 9 (qv b) 1 0 5] (lP 0 0 (qc b) hs (fun _ hs=>lN (kX (hs.ret [(0,0,5)] (qv b) (by unfold minR;rw[if_pos (cmpR_lt.1 oM)])))))))))
theorem tPowerP (a:Rat)(n:Int)(K:Nat)(hK:14*K+20≤100000000)(ha:LQ K a)(hn : -13≤n∧n≤13)(hs:0≤n)(w:World)(h:Hp)(g:G w h)(tb:Tab h):CV 115 #[qv a,iV n] w h (.tuple #[qv (powq a n),.bool true]):=by
 have hs:=((sS g).aB tb);obtain ⟨m,hm⟩:∃ m:Nat,m=n.natAbs:=⟨_,rfl⟩;have hm13:m≤13:=by omega
 refine go Tryz.func115 [(0,qv a),(1,iV n)] rfl (cSL (lA 2 55 (qc a) hs (fun b1 w2 h3 hs=>lA 4 55 ([qF,uV 0,eS,uV 0,eS]) hs (fun b4 w5 h6 hs=>lL hs [.v 5 qF] (lNS (lC 7 hs (fOf 1 oM oM _ _ hs.g) ?_))))));rintro _ w7 h8 hs rfl;refine lA 6 55 ([qF,uV 0,eS,uV 0,eS]) hs (fun b9 _ zd hs=>lP 0 0 (qc ((1:Int):Rat)) hs (fun _ hs=>lN (cQ (cSL (lL hs [.m 8 1,.m 9 1] (lI 10 (0-n) ?_))))));refine lV 11 (iV (max (n:Int) (0-n:Int))) ?_ (hr:=rint (n:=(if (0-n:Int)>(n:Int) then (0-n:Int) else (n:Int))) kR (by simp only[imax2]));refine lL hs [.v 12 (iV 0)] (lN (kZ ?_));refine cTo _ (CG.loop (fun μ_ Γ w_=>∃ (k:Nat) (h_:Hp),μ_=m-k∧Γ=[(1,iV n),(2,pB b1),(4,pB b4),(5,qF),(6,pB b9),(11,iV (max (n:Int) (0-n:Int))),(12,nV k)]∧SS w h w_ h_ [⟨b9,55,qc (powN a k)⟩,⟨b4,55,[qF,uV 0,eS,uV 0,eS]⟩,⟨b1,55,qc a⟩] [] [fun h_=>Tab h_]∧k≤m) _ ⟨0,zd,rfl,rfl,hs.to _ _,Nat.zero_le _⟩ ?_);rintro _ _ _ ⟨k,_,hm15,rfl,hs,hk⟩;have hkK:k*K≤13*K:=Nat.mul_le_mul_right _ oM;have hpk:=lq_powN ha k;refine cSL ?_;cases za:(decide ((k:Int)<(max (n:Int) (0-n:Int):Int)))
 ·
  have zb:=oF za;refine lB 13 za (lN (cQ (cIF (CG.exit ?_))))
  show CG _ _ _ _ _ _ _ _
  refine cQ (cSL (lL hs [.m 18 1] ?_));have ⟨zc,phb17⟩:=dT (p:=(0:Int)≤(n:Int)) oM;exact lB 19 zc (lN (cIT (cSL (lL hs [.o 20 (qv (powN a k)) 0 0 5] (lP 1 0 (qc (powN a k)) hs (fun _ hs=>lL hs [.v 5 qT] (lN (kX (hs.ret [(1,0,5)] (.tuple #[qv (powN a k),qT]) (by unfold powq;rw[if_pos oM,show n.natAbs=k by omega]))))))))))
 have zb:=oT za;refine lB 13 za (lN (cQ (cIT (cK (cQ (kZ (kQ (lL hs [.o 14 (qv (powN a k)) 0 0 5,.o 15 (qv a) 2 0 5] ?_))))))));have hq19:=LQ.mul hpk ha;refine lC 16 hs (fMul (powN a k) a (LQ.mono hpk oM) (LQ.mono ha oM) _ _ hs.g hs.f.1) ?_;rintro _ _ ze hs rfl;refine lP 0 0 (qc ((powN a k)*a)) hs (fun _ hs=>lN (kQ (lIn 17 ((k:Nat)+1) (k+1) ?_)));refine lL hs [.m 12 17] (lD ?_);intro a_ ka;refine ⟨_,_,?_,⟨k+1,ze,rfl,rfl,hs.to _ _,oM⟩,ka.to _ kR⟩
 omega
theorem tPowerN (a:Rat)(n:Int)(K:Nat)(hK:14*K+20≤100000000)(ha:LQ K a)(hn : -13≤n∧n≤13)(hs:n<0)(ha0:a≠0)(w:World)(h:Hp)(g:G w h)(tb:Tab h):CV 115 #[qv a,iV n] w h (.tuple #[qv (powq a n),.bool true]):=by
 have hs:=((sS g).aB tb);obtain ⟨m,hm⟩:∃ m:Nat,m=n.natAbs:=⟨_,rfl⟩;have hm13:m≤13:=by omega
 refine go Tryz.func115 [(0,qv a),(1,iV n)] rfl (cSL (lA 2 55 (qc a) hs (fun b1 w2 h3 hs=>lA 4 55 ([qF,uV 0,eS,uV 0,eS]) hs (fun b4 w5 h6 hs=>lL hs [.v 5 qF] (lNS (lC 7 hs (fOf 1 oM oM _ _ hs.g) ?_))))));rintro _ w7 h8 hs rfl;refine lA 6 55 ([qF,uV 0,eS,uV 0,eS]) hs (fun b9 _ zd hs=>lP 0 0 (qc ((1:Int):Rat)) hs (fun _ hs=>lN (cQ (cSL (lL hs [.m 8 1,.m 9 1] (lI 10 (0-n) ?_))))));refine lV 11 (iV (max (n:Int) (0-n:Int))) ?_ (hr:=rint (n:=(if (0-n:Int)>(n:Int) then (0-n:Int) else (n:Int))) kR (by simp only[imax2]));refine lL hs [.v 12 (iV 0)] (lN (kZ ?_));refine cTo _ (CG.loop (fun μ_ Γ w_=>∃ (k:Nat) (h_:Hp),μ_=m-k∧Γ=[(1,iV n),(2,pB b1),(4,pB b4),(5,qF),(6,pB b9),(11,iV (max (n:Int) (0-n:Int))),(12,nV k)]∧SS w h w_ h_ [⟨b9,55,qc (powN a k)⟩,⟨b4,55,[qF,uV 0,eS,uV 0,eS]⟩,⟨b1,55,qc a⟩] [] [fun h_=>Tab h_]∧k≤m) _ ⟨0,zd,rfl,rfl,hs.to _ _,Nat.zero_le _⟩ ?_);rintro _ _ _ ⟨k,_,hm15,rfl,hs,hk⟩;have hkK:k*K≤13*K:=Nat.mul_le_mul_right _ oM;have hpk:=lq_powN ha k;refine cSL ?_;cases za:(decide ((k:Int)<(max (n:Int) (0-n:Int):Int)))
 ·
  have zb:=oF za;refine lB 13 za (lN (cQ (cIF (CG.exit ?_))))
  show CG _ _ _ _ _ _ _ _
  refine cQ (cSL (lL hs [.m 18 1] ?_));have ⟨zc,phb17⟩:=dF (p:=(0:Int)≤(n:Int)) oM;refine lB 19 zc (lN (cIF (cK (cQ (cR 5 [] mixed hs al_nil ?_)))));refine eO 1 22 [(0,0,5)] (qv (powN a k)) hs (eC 0 21 hs (fun _ _ hs=>fOf 1 oM oM _ _ hs.g) ?_);rintro _ _ _ _ _ hs rfl;have hq20:=LQ.div (LQ.lit (z:=1) kD) hpk;refine eC 2 23 hs (fun _ _ hs=>fDivN ((1:Int):Rat) (powN a k) (LQ.mono (LQ.lit (z:=1) kD) oM) (LQ.mono hpk oM) (num_nz (powN_nz ha0 k)) _ _ hs.g hs.f.1) ?_;rintro _ _ _ _ _ hs rfl;exact eV 3 24 (qv (((1:Int):Rat)/(powN a k))) (eV 4 25 qT (eD0 hs (fun _ _ hs=>tP 5 1 0 (qc (((1:Int):Rat)/(powN a k))) hs (fun _ hs=>tV 6 5 qT (tN (kX (hs.ret [(1,0,5)] (.tuple #[qv (((1:Int):Rat)/(powN a k)),qT]) (by unfold powq;rw[if_neg oM,show n.natAbs=k by omega]))))))))
 have zb:=oT za;refine lB 13 za (lN (cQ (cIT (cK (cQ (kZ (kQ (lL hs [.o 14 (qv (powN a k)) 0 0 5,.o 15 (qv a) 2 0 5] ?_))))))));have hq26:=LQ.mul hpk ha;refine lC 16 hs (fMul (powN a k) a (LQ.mono hpk oM) (LQ.mono ha oM) _ _ hs.g hs.f.1) ?_;rintro _ _ ze hs rfl;refine lP 0 0 (qc ((powN a k)*a)) hs (fun _ hs=>lN (kQ (lIn 17 ((k:Nat)+1) (k+1) ?_)));refine lL hs [.m 12 17] (lD ?_);intro a_ ka;refine ⟨_,_,?_,⟨k+1,ze,rfl,rfl,hs.to _ _,oM⟩,ka.to _ kR⟩
 omega
theorem tPowerZ (a:Rat)(n:Int)(K:Nat)(hK:14*K+20≤100000000)(ha:LQ K a)(hn : -13≤n∧n≤13)(hs:n<0)(ha0:a=0)(w:World)(h:Hp)(g:G w h)(tb:Tab h):CV 115 #[qv a,iV n] w h (.tuple #[qv 0,.bool false]):=by
 have hs:=((sS g).aB tb);obtain ⟨m,hm⟩:∃ m:Nat,m=n.natAbs:=⟨_,rfl⟩;have hm13:m≤13:=by omega
 refine go Tryz.func115 [(0,qv a),(1,iV n)] rfl (cSL (lA 2 55 (qc a) hs (fun b1 w2 h3 hs=>lA 4 55 ([qF,uV 0,eS,uV 0,eS]) hs (fun b4 w5 h6 hs=>lL hs [.v 5 qF] (lNS (lC 7 hs (fOf 1 oM oM _ _ hs.g) ?_))))));rintro _ w7 h8 hs rfl;refine lA 6 55 ([qF,uV 0,eS,uV 0,eS]) hs (fun b9 _ zd hs=>lP 0 0 (qc ((1:Int):Rat)) hs (fun _ hs=>lN (cQ (cSL (lL hs [.m 8 1,.m 9 1] (lI 10 (0-n) ?_))))));refine lV 11 (iV (max (n:Int) (0-n:Int))) ?_ (hr:=rint (n:=(if (0-n:Int)>(n:Int) then (0-n:Int) else (n:Int))) kR (by simp only[imax2]));refine lL hs [.v 12 (iV 0)] (lN (kZ ?_));refine cTo _ (CG.loop (fun μ_ Γ w_=>∃ (k:Nat) (h_:Hp),μ_=m-k∧Γ=[(1,iV n),(2,pB b1),(4,pB b4),(5,qF),(6,pB b9),(11,iV (max (n:Int) (0-n:Int))),(12,nV k)]∧SS w h w_ h_ [⟨b9,55,qc (powN a k)⟩,⟨b4,55,[qF,uV 0,eS,uV 0,eS]⟩,⟨b1,55,qc a⟩] [] [fun h_=>Tab h_]∧k≤m) _ ⟨0,zd,rfl,rfl,hs.to _ _,Nat.zero_le _⟩ ?_);rintro _ _ _ ⟨k,_,hm15,rfl,hs,hk⟩;have hkK:k*K≤13*K:=Nat.mul_le_mul_right _ oM;have hpk:=lq_powN ha k;refine cSL ?_;cases za:(decide ((k:Int)<(max (n:Int) (0-n:Int):Int)))
 ·
  have zb:=oF za;refine lB 13 za (lN (cQ (cIF (CG.exit ?_))))
  show CG _ _ _ _ _ _ _ _
  refine cQ (cSL (lL hs [.m 18 1] ?_));have ⟨zc,phb17⟩:=dF (p:=(0:Int)≤(n:Int)) oM;refine lB 19 zc (lN (cIF (cK (cQ (cR 5 [] mixed hs al_nil ?_)))));refine eO 1 22 [(0,0,5)] (qv (powN a k)) hs (eC 0 21 hs (fun _ _ hs=>fOf 1 oM oM _ _ hs.g) ?_);rintro _ _ _ _ _ hs rfl;refine eC 2 23 hs (fun _ _ hs=>fDivB ((1:Int):Rat) (powN a k) (by rw[ha0];exact powN_zero oM) _ _ hs.g) ?_;rintro _ _ _ _ _ hs rfl;exact eV 3 24 (qv 0) (eV 4 25 qF (eD0 hs (fun _ _ hs=>tP 5 1 0 (qc 0) hs (fun _ hs=>tV 6 5 qF (tN (kX (hs.ret [(1,0,5)] (.tuple #[qv 0,qF]) rfl)))))))
 have zb:=oT za;refine lB 13 za (lN (cQ (cIT (cK (cQ (kZ (kQ (lL hs [.o 14 (qv (powN a k)) 0 0 5,.o 15 (qv a) 2 0 5] ?_))))))));have hq25:=LQ.mul hpk ha;refine lC 16 hs (fMul (powN a k) a (LQ.mono hpk oM) (LQ.mono ha oM) _ _ hs.g hs.f.1) ?_;rintro _ _ ze hs rfl;refine lP 0 0 (qc ((powN a k)*a)) hs (fun _ hs=>lN (kQ (lIn 17 ((k:Nat)+1) (k+1) ?_)));refine lL hs [.m 12 17] (lD ?_);intro a_ ka;refine ⟨_,_,?_,⟨k+1,ze,rfl,rfl,hs.to _ _,oM⟩,ka.to _ kR⟩
 omega
theorem tPower (a:Rat)(n:Int)(K:Nat)(hK:14*K+20≤100000000)(ha:LQ K a)(hn : -13≤n∧n≤13)(ho:n<0→a≠0)(w:World)(h:Hp)(g:G w h)(tb:Tab h):CV 115 #[qv a,iV n] w h (.tuple #[qv (powq a n),.bool true]):=by
  by_cases hs:0≤n
  · exact tPowerP a n K hK ha hn hs w h g tb
  · exact tPowerN a n K hK ha hn oM (ho oM) w h g tb
theorem tApplyT (s:Stp)(a b:Rat)(K:Nat)(hK:14*K+20≤100000000)(ha:LQ K a)(hb:LQ K b)(hq:LQ 1 s.q)(hK1:1≤K)(hop:1≤s.op∧s.op≤13∧s.op≠2)(hn:s.op=8 → -12≤s.n∧s.n≤12)(hok:okq s.op s.n a b)(w:World)(h:Hp)(g:G w h)(tb:Tab h):CV 95 #[.agg #[iV s.op,iV s.a,iV s.b,iV s.n,.bool (ineg s.q.num),uV (lo (iabs s.q.num)),.string (hi (iabs s.q.num)),uV (lo (qd s.q)),.string (hi (qd s.q))],qv a,qv b] w h (.tuple #[qv (opv s.op s.n s.q a b),.bool true]):=by
 have hs:=((sS g).aB tb);refine go Tryz.func95 [(0,.agg #[iV s.op,iV s.a,iV s.b,iV s.n,.bool (ineg s.q.num),uV (lo (iabs s.q.num)),.string (hi (iabs s.q.num)),uV (lo (qd s.q)),.string (hi (qd s.q))]),(1,qv a),(2,qv b)] rfl (cSL (lA 3 110 ([iV s.op,iV s.a,iV s.b,iV s.n,.bool (ineg s.q.num),uV (lo (iabs s.q.num)),.string (hi (iabs s.q.num)),uV (lo (qd s.q)),.string (hi (qd s.q))]) hs (fun b1 w2 h3 hs=>lA 4 55 (qc a) hs (fun b4 w5 h6 hs=>lA 5 55 (qc b) hs (fun b7 w8 h9 hs=>lA 6 55 ([qF,uV 0,eS,uV 0,eS]) hs (fun b10 _ _ hs=>lL hs [.v 7 qF] (lN (cQ (cSL (lL hs [.v 8 (pB b1),.o 9 (iV s.op) 3 0 1] (lN (kZ (cSL ?_)))))))))))));cases za:((s.op:Int) == (1:Int))
 ·
  have zo:=neOfBeq za;refine lB 11 za (lL hs [.m 10 11] (lN (cIF (cSL ?_))));cases zb:((s.op:Int) == (3:Int))
  ·
   have zp:=neOfBeq zb;refine lB 15 zb (lL hs [.m 14 15] (lN (cIF (cSL ?_))));cases zc:((s.op:Int) == (4:Int))
   ·
    have zq:=neOfBeq zc;refine lB 20 zc (lL hs [.m 19 20] (lN (cIF (cSL ?_))));cases zd:((s.op:Int) == (5:Int))
    ·
     have zr:=neOfBeq zd;refine lB 25 zd (lL hs [.m 24 25] (lN (cIF (cSL ?_))));cases ze:((s.op:Int) == (6:Int))
     ·
      have zs:=neOfBeq ze;refine lB 30 ze (lL hs [.m 29 30] (lN (cIF (cSL ?_))));cases zf:((s.op:Int) == (7:Int))
      ·
       have zt:=neOfBeq zf;refine lB 37 zf (lL hs [.m 36 37] (lN (cIF (cSL ?_))));cases zg:((s.op:Int) == (8:Int))
       ·
        have zu:=neOfBeq zg;refine lB 41 zg (lL hs [.m 40 41] (lN (cIF (cSL ?_))));cases zi:((s.op:Int) == (9:Int))
        ·
         have zv:=neOfBeq zi;refine lB 49 zi (lL hs [.m 48 49] (lN (cIF (cSL ?_))));cases zj:((s.op:Int) == (10:Int))
         ·
          have zw:=neOfBeq zj;refine lB 53 zj (lL hs [.m 52 53] (lN (cIF (cSL ?_))));cases zk:((s.op:Int) == (11:Int))
          ·
           have zx:=neOfBeq zk;refine lB 58 zk (lL hs [.m 57 58] (lN (cIF (cSL ?_))));cases zl:((s.op:Int) == (12:Int))
           ·
            have zA:=neOfBeq zl;refine lB 68 zl (lL hs [.m 67 68] (lN (cIF (cK (cSL (lL hs [.o 72 (qv a) 2 0 5,.o 73 (qv b) 1 0 5] (lC 74 hs (fMin a b (LQ.mono ha oM) (LQ.mono hb oM) _ _ hs.g) ?_)))))));rintro _ _ _ hs rfl;exact lP 0 0 (qc (minR a b)) hs (fun _ hs=>lL hs [.v 7 qT] (lN (kX (hs.ret [(0,0,5)] (.tuple #[qv (minR a b),qT]) (by rw[show s.op=13 by omega];rfl)))))
           have zA:=eq_of_beq zl;refine lB 68 zl (lL hs [.m 67 68] (lN (cIT (cSL (lL hs [.o 69 (qv a) 2 0 5,.o 70 (qv b) 1 0 5] (lC 71 hs (fMax a b (LQ.mono ha oM) (LQ.mono hb oM) _ _ hs.g) ?_))))));rintro _ _ _ hs rfl;exact lP 0 0 (qc (maxR a b)) hs (fun _ hs=>lL hs [.v 7 qT] (lN (kX (hs.ret [(0,0,5)] (.tuple #[qv (maxR a b),qT]) (by rw[show s.op=12 by omega];rfl)))))
          have zx:=eq_of_beq zk;refine lB 58 zk (lL hs [.m 57 58] (lN (cIT (cQ (cR 8 [] mixed hs al_nil ?_)))));refine eO 0 59 [(2,0,5)] (qv a) hs (eO 1 60 [(2,0,5)] (qv a) hs ?_);have zm:LQ (K) (qabs a):=LQ.abs ha;refine eC 2 61 hs (fun _ _ hs=>fAbs a (LQ.mono ha oM) _ _ hs.g) ?_;rintro _ _ _ _ _ hs rfl;refine eC 3 62 hs (fun _ _ hs=>fOf 1 oM oM _ _ hs.g) ?_;rintro _ _ _ _ _ hs rfl;have zn:=LQ.add zm (LQ.lit (z:=1) kD);refine eC 4 63 hs (fun _ _ hs=>fAdd (qabs a) ((1:Int):Rat) (LQ.mono zm oM) (LQ.mono (LQ.lit (z:=1) kD) oM) _ _ hs.g hs.f.1) ?_;rintro _ _ _ _ _ hs rfl;have hq38:=LQ.div ha zn;refine eC 5 64 hs (fun _ _ hs=>fDivN a ((qabs a)+((1:Int):Rat)) (LQ.mono ha oM) (LQ.mono zn oM) (abs_one_ne a) _ _ hs.g hs.f.1) ?_;rintro _ _ _ _ _ hs rfl;exact eV 6 65 (qv (a/((qabs a)+((1:Int):Rat)))) (eV 7 66 qT (eD0 hs (fun _ _ hs=>tP 8 0 0 (qc (a/((qabs a)+((1:Int):Rat)))) hs (fun _ hs=>tV 9 7 qT (tN (kX (hs.ret [(0,0,5)] (.tuple #[qv (a/((qabs a)+((1:Int):Rat))),qT]) (by rw[show s.op=11 by omega];rfl))))))))
         have zw:=eq_of_beq zj;refine lB 53 zj (lL hs [.m 52 53] (lN (cIT (cSL (lL hs [.o 54 (qv a) 2 0 5,.v 55 (qv 0)] (lC 56 hs (fMax a 0 (LQ.mono ha oM) (LQ.mono (LQ.lit (z:=0) kD) oM) _ _ hs.g) ?_))))));rintro _ _ _ hs rfl;exact lP 0 0 (qc (maxR a 0)) hs (fun _ hs=>lL hs [.v 7 qT] (lN (kX (hs.ret [(0,0,5)] (.tuple #[qv (maxR a 0),qT]) (by rw[show s.op=10 by omega];rfl)))))
        have zv:=eq_of_beq zi;refine lB 49 zi (lL hs [.m 48 49] (lN (cIT (cSL (lL hs [.o 50 (qv a) 2 0 5] ?_)))));have hq47:LQ (K) (qabs a):=LQ.abs ha;refine lC 51 hs (fAbs a (LQ.mono ha oM) _ _ hs.g) ?_;rintro _ _ _ hs rfl;exact lP 0 0 (qc (qabs a)) hs (fun _ hs=>lL hs [.v 7 qT] (lN (kX (hs.ret [(0,0,5)] (.tuple #[qv (qabs a),qT]) (by rw[show s.op=9 by omega];rfl)))))
       have zu:=eq_of_beq zg;refine lB 41 zg (lL hs [.m 40 41] (lN (cIT (cSL (lL hs [.o 42 (qv a) 2 0 5,.v 43 (qP b1 3),.o 44 (iV s.n) 3 3 1] (lC 45 hs (tPower a s.n K hK ha (by have:=hn oM;omega) (hok.2 oM) _ _ hs.g hs.f.1) ?_))))));rintro _ _ _ hs rfl;exact lL hs [.v 46 (qv (powq a s.n)),.v 47 qT] (lP 0 0 (qc (powq a s.n)) hs (fun _ hs=>lL hs [.m 7 47] (lN (kX (hs.ret [(0,0,5)] (.tuple #[qv (powq a s.n),qT]) (by rw[show s.op=8 by omega];rfl))))))
      have zt:=eq_of_beq zf;refine lB 37 zf (lL hs [.m 36 37] (lN (cIT (cSL (lL hs [.o 38 (qv a) 2 0 5] ?_)))));have hq54:LQ (K) (-a):=LQ.neg ha;refine lC 39 hs (fNeg a (LQ.mono ha oM) _ _ hs.g) ?_;rintro _ _ _ hs rfl;exact lP 0 0 (qc (-a)) hs (fun _ hs=>lL hs [.v 7 qT] (lN (kX (hs.ret [(0,0,5)] (.tuple #[qv (-a),qT]) (by rw[show s.op=7 by omega];rfl)))))
     have zs:=eq_of_beq ze;refine lB 30 ze (lL hs [.m 29 30] (lN (cIT (cSL (lL hs [.o 31 (qv a) 2 0 5,.o 32 (qv b) 1 0 5] ?_)))));have hq58:=LQ.div ha hb;refine lC 33 hs (fDivN a b (LQ.mono ha oM) (LQ.mono hb oM) (num_nz (hok.1 oM)) _ _ hs.g hs.f.1) ?_;rintro _ _ _ hs rfl;exact lL hs [.v 34 (qv (a/b)),.v 35 qT] (lP 0 0 (qc (a/b)) hs (fun _ hs=>lL hs [.m 7 35] (lN (kX (hs.ret [(0,0,5)] (.tuple #[qv (a/b),qT]) (by rw[show s.op=6 by omega];rfl))))))
    have zr:=eq_of_beq zd;refine lB 25 zd (lL hs [.m 24 25] (lN (cIT (cSL (lL hs [.o 26 (qv a) 2 0 5,.o 27 (qv b) 1 0 5] ?_)))));have hq62:=LQ.mul ha hb;refine lC 28 hs (fMul a b (LQ.mono ha oM) (LQ.mono hb oM) _ _ hs.g hs.f.1) ?_;rintro _ _ _ hs rfl;exact lP 0 0 (qc (a*b)) hs (fun _ hs=>lL hs [.v 7 qT] (lN (kX (hs.ret [(0,0,5)] (.tuple #[qv (a*b),qT]) (by rw[show s.op=5 by omega];rfl)))))
   have zq:=eq_of_beq zc;refine lB 20 zc (lL hs [.m 19 20] (lN (cIT (cSL (lL hs [.o 21 (qv a) 2 0 5,.o 22 (qv b) 1 0 5] ?_)))));have hq66:=LQ.sub ha hb;refine lC 23 hs (fSub a b (LQ.mono ha oM) (LQ.mono hb oM) _ _ hs.g hs.f.1) ?_;rintro _ _ _ hs rfl;exact lP 0 0 (qc (a-b)) hs (fun _ hs=>lL hs [.v 7 qT] (lN (kX (hs.ret [(0,0,5)] (.tuple #[qv (a-b),qT]) (by rw[show s.op=4 by omega];rfl)))))
  have zp:=eq_of_beq zb;refine lB 15 zb (lL hs [.m 14 15] (lN (cIT (cSL (lL hs [.o 16 (qv a) 2 0 5,.o 17 (qv b) 1 0 5] ?_)))));have hq70:=LQ.add ha hb;refine lC 18 hs (fAdd a b (LQ.mono ha oM) (LQ.mono hb oM) _ _ hs.g hs.f.1) ?_;rintro _ _ _ hs rfl;exact lP 0 0 (qc (a+b)) hs (fun _ hs=>lL hs [.v 7 qT] (lN (kX (hs.ret [(0,0,5)] (.tuple #[qv (a+b),qT]) (by rw[show s.op=3 by omega];rfl)))))
 have zo:=eq_of_beq za;exact lB 11 za (lL hs [.m 10 11] (lN (cIT (cSL (lL hs [.v 12 (qP b1 4),.o 13 (qv s.q) 3 4 5] (lP 0 0 (qc s.q) hs (fun _ hs=>lL hs [.v 7 qT] (lN (kX (hs.ret [(0,0,5)] (.tuple #[qv s.q,qT]) (by rw[show s.op=1 by omega];rfl)))))))))))
theorem tApply6 (s:Stp)(a b:Rat)(K:Nat)(hK:14*K+20≤100000000)(ha:LQ K a)(hb:LQ K b)(hq:LQ 1 s.q)(hK1:1≤K)(hop:s.op=6)(hz6:b=0)(w:World)(h:Hp)(g:G w h)(tb:Tab h):CV 95 #[.agg #[iV s.op,iV s.a,iV s.b,iV s.n,.bool (ineg s.q.num),uV (lo (iabs s.q.num)),.string (hi (iabs s.q.num)),uV (lo (qd s.q)),.string (hi (qd s.q))],qv a,qv b] w h (.tuple #[qv 0,.bool false]):=by
 have hs:=((sS g).aB tb);refine go Tryz.func95 [(0,.agg #[iV s.op,iV s.a,iV s.b,iV s.n,.bool (ineg s.q.num),uV (lo (iabs s.q.num)),.string (hi (iabs s.q.num)),uV (lo (qd s.q)),.string (hi (qd s.q))]),(1,qv a),(2,qv b)] rfl (cSL (lA 3 110 ([iV s.op,iV s.a,iV s.b,iV s.n,.bool (ineg s.q.num),uV (lo (iabs s.q.num)),.string (hi (iabs s.q.num)),uV (lo (qd s.q)),.string (hi (qd s.q))]) hs (fun b1 w2 h3 hs=>lA 4 55 (qc a) hs (fun b4 w5 h6 hs=>lA 5 55 (qc b) hs (fun b7 w8 h9 hs=>lA 6 55 ([qF,uV 0,eS,uV 0,eS]) hs (fun b10 _ _ hs=>lL hs [.v 7 qF] (lN (cQ (cSL (lL hs [.v 8 (pB b1),.o 9 (iV s.op) 3 0 1] (lN (kZ (cSL ?_)))))))))))));have za:((s.op:Int) == (1:Int))=false:=beqF oM;have phb13:=neOfBeq za;refine lB 11 za (lL hs [.m 10 11] (lN (cIF (cSL ?_))));have zb:((s.op:Int) == (3:Int))=false:=beqF oM;have phb14:=neOfBeq zb;refine lB 15 zb (lL hs [.m 14 15] (lN (cIF (cSL ?_))));have zc:((s.op:Int) == (4:Int))=false:=beqF oM;have phb15:=neOfBeq zc;refine lB 20 zc (lL hs [.m 19 20] (lN (cIF (cSL ?_))));have zd:((s.op:Int) == (5:Int))=false:=beqF oM;have phb16:=neOfBeq zd;refine lB 25 zd (lL hs [.m 24 25] (lN (cIF (cSL ?_))));have ze:((s.op:Int) == (6:Int))=true:=beqT oM;have phb17:=eq_of_beq ze;refine lB 30 ze (lL hs [.m 29 30] (lN (cIT (cSL (lL hs [.o 31 (qv a) 2 0 5,.o 32 (qv b) 1 0 5] (lC 33 hs (fDivB a b hz6 _ _ hs.g) ?_))))));rintro _ _ _ hs rfl;exact lL hs [.v 34 (qv 0),.v 35 qF] (lP 0 0 (qc 0) hs (fun _ hs=>lL hs [.m 7 35] (lN (kX (hs.ret [(0,0,5)] (.tuple #[qv 0,qF]) rfl)))))
theorem tApply8 (s:Stp)(a b:Rat)(K:Nat)(hK:14*K+20≤100000000)(ha:LQ K a)(hb:LQ K b)(hq:LQ 1 s.q)(hK1:1≤K)(hop:s.op=8)(hn : -12≤s.n∧s.n<0)(hz8:a=0)(w:World)(h:Hp)(g:G w h)(tb:Tab h):CV 95 #[.agg #[iV s.op,iV s.a,iV s.b,iV s.n,.bool (ineg s.q.num),uV (lo (iabs s.q.num)),.string (hi (iabs s.q.num)),uV (lo (qd s.q)),.string (hi (qd s.q))],qv a,qv b] w h (.tuple #[qv 0,.bool false]):=by
 have hs:=((sS g).aB tb);refine go Tryz.func95 [(0,.agg #[iV s.op,iV s.a,iV s.b,iV s.n,.bool (ineg s.q.num),uV (lo (iabs s.q.num)),.string (hi (iabs s.q.num)),uV (lo (qd s.q)),.string (hi (qd s.q))]),(1,qv a),(2,qv b)] rfl (cSL (lA 3 110 ([iV s.op,iV s.a,iV s.b,iV s.n,.bool (ineg s.q.num),uV (lo (iabs s.q.num)),.string (hi (iabs s.q.num)),uV (lo (qd s.q)),.string (hi (qd s.q))]) hs (fun b1 w2 h3 hs=>lA 4 55 (qc a) hs (fun b4 w5 h6 hs=>lA 5 55 (qc b) hs (fun b7 w8 h9 hs=>lA 6 55 ([qF,uV 0,eS,uV 0,eS]) hs (fun b10 _ _ hs=>lL hs [.v 7 qF] (lN (cQ (cSL (lL hs [.v 8 (pB b1),.o 9 (iV s.op) 3 0 1] (lN (kZ (cSL ?_)))))))))))));have za:((s.op:Int) == (1:Int))=false:=beqF oM;have phb13:=neOfBeq za;refine lB 11 za (lL hs [.m 10 11] (lN (cIF (cSL ?_))));have zb:((s.op:Int) == (3:Int))=false:=beqF oM;have phb14:=neOfBeq zb;refine lB 15 zb (lL hs [.m 14 15] (lN (cIF (cSL ?_))));have zc:((s.op:Int) == (4:Int))=false:=beqF oM;have phb15:=neOfBeq zc;refine lB 20 zc (lL hs [.m 19 20] (lN (cIF (cSL ?_))));have zd:((s.op:Int) == (5:Int))=false:=beqF oM;have phb16:=neOfBeq zd;refine lB 25 zd (lL hs [.m 24 25] (lN (cIF (cSL ?_))));have ze:((s.op:Int) == (6:Int))=false:=beqF oM;have phb17:=neOfBeq ze;refine lB 30 ze (lL hs [.m 29 30] (lN (cIF (cSL ?_))));have zf:((s.op:Int) == (7:Int))=false:=beqF oM;have phb18:=neOfBeq zf;refine lB 37 zf (lL hs [.m 36 37] (lN (cIF (cSL ?_))));have zg:((s.op:Int) == (8:Int))=true:=beqT oM;have phb19:=eq_of_beq zg;refine lB 41 zg (lL hs [.m 40 41] (lN (cIT (cSL (lL hs [.o 42 (qv a) 2 0 5,.v 43 (qP b1 3),.o 44 (iV s.n) 3 3 1] (lC 45 hs (tPowerZ a s.n K hK ha oM oM hz8 _ _ hs.g hs.f.1) ?_))))));rintro _ _ _ hs rfl;exact lL hs [.v 46 (qv 0),.v 47 qF] (lP 0 0 (qc 0) hs (fun _ hs=>lL hs [.m 7 47] (lN (kX (hs.ret [(0,0,5)] (.tuple #[qv 0,qF]) rfl)))))
def apv (op n:Int)(q a b:Rat):Rat:=if okq op n a b then opv op n q a b else 0
theorem tApply (s:Stp)(a b:Rat)(K:Nat)(hK:14*K+20≤100000000)(ha:LQ K a)(hb:LQ K b)(hq:LQ 1 s.q)(hK1:1≤K)(hop:1≤s.op∧s.op≤13∧s.op≠2)(hn:s.op=8 → -12≤s.n∧s.n≤12)(w:World)(h:Hp)(g:G w h)(tb:Tab h):CV 95 #[stv s,qv a,qv b] w h (.tuple #[qv (apv s.op s.n s.q a b),.bool (decide (okq s.op s.n a b))]):=by
  by_cases hok:okq s.op s.n a b
  · unfold apv;rw[if_pos hok,decide_eq_true hok];exact tApplyT s a b K hK ha hb hq hK1 hop hn hok w h g tb
  · unfold apv;rw[if_neg hok,decide_eq_false hok]
    by_cases h6:s.op=6∧b=0
    · exact tApply6 s a b K hK ha hb hq hK1 h6.1 h6.2 w h g tb
    · by_cases h8:s.op=8∧s.n<0∧a=0
      · exact tApply8 s a b K hK ha hb hq hK1 h8.1 ⟨(hn h8.1).1,h8.2.1⟩ h8.2.2 w h g tb
      · exact absurd ⟨fun x y=>h6 ⟨x,y⟩,fun x y z=>h8 ⟨x,y,z⟩⟩ hok
theorem tKinked (s:Stp)(a b:Rat)(K:Nat)(hK:K≤100000000)(ha:LQ K a)(hb:LQ K b)(w:World)(h:Hp)(g:G w h):CV 96 #[.agg #[iV s.op,iV s.a,iV s.b,iV s.n,.bool (ineg s.q.num),uV (lo (iabs s.q.num)),.string (hi (iabs s.q.num)),uV (lo (qd s.q)),.string (hi (qd s.q))],qv a,qv b] w h (.bool (decide (knk s.op a b))):=by
 have hs:=sS g;refine go Tryz.func96 [(0,.agg #[iV s.op,iV s.a,iV s.b,iV s.n,.bool (ineg s.q.num),uV (lo (iabs s.q.num)),.string (hi (iabs s.q.num)),uV (lo (qd s.q)),.string (hi (qd s.q))]),(1,qv a),(2,qv b)] rfl (cSL (lA 3 110 ([iV s.op,iV s.a,iV s.b,iV s.n,.bool (ineg s.q.num),uV (lo (iabs s.q.num)),.string (hi (iabs s.q.num)),uV (lo (qd s.q)),.string (hi (qd s.q))]) hs (fun b1 w2 h3 hs=>lA 4 55 (qc a) hs (fun b4 w5 h6 hs=>lA 5 55 (qc b) hs (fun b7 w8 h9 hs=>lL hs [.v 6 qF] (lN (cQ (cSL (lL hs [.v 7 (pB b1),.o 8 (iV s.op) 2 0 1] (lN (kZ (cQ (cSL (lL hs [.v 10 (.bool ((s.op:Int) == (9:Int))),.m 9 10] (lN ?_)))))))))))))));cases za:((s.op:Int) == (9:Int))
 ·
  try rw[za] at hs
  try rw[za]
  have ze:=neOfBeq za;refine cIF (kQ (lL hs [.v 11 (.bool ((s.op:Int) == (10:Int))),.m 9 11] (lN ?_)));cases zb:((s.op:Int) == (10:Int))
  ·
   try rw[zb] at hs
   try rw[zb]
   have zf:=neOfBeq zb;refine cIF (cQ (cSL (lL hs [.v 16 (.bool ((s.op:Int) == (12:Int))),.m 15 16] (lN ?_))));cases zc:((s.op:Int) == (12:Int))
   ·
    try rw[zc] at hs
    try rw[zc]
    have zg:=neOfBeq zc;refine cIF (kQ (lL hs [.v 17 (.bool ((s.op:Int) == (13:Int))),.m 15 17] (lN ?_)));cases zd:((s.op:Int) == (13:Int))
    ·
     try rw[zd] at hs
     try rw[zd]
     have zi:=neOfBeq zd;exact cIF (cK (cSL (lL hs [.v 6 qF] (lN (kX (hs.ret [] qF (congrArg Value.bool (knk_0 oM))))))))
    try rw[zd] at hs
    try rw[zd]
    have zi:=eq_of_beq zd;refine cIT (cSL (lL hs [.o 18 (qv a) 1 0 5,.o 19 (qv b) 0 0 5] (lC 20 hs (fCmp a b (LQ.mono ha oM) (LQ.mono hb oM) _ _ hs.g) ?_)));rintro _ _ _ hs rfl;exact lL hs [.v 21 (.bool ((cmpR a b:Int) == (0:Int))),.m 6 21] (lN (kX (hs.ret [] (.bool ((cmpR a b:Int) == (0:Int))) (congrArg Value.bool (knk_2 oM)))))
   try rw[zc] at hs
   try rw[zc]
   have zg:=eq_of_beq zc;refine cIT (cK (cIT (cSL (lL hs [.o 18 (qv a) 1 0 5,.o 19 (qv b) 0 0 5] (lC 20 hs (fCmp a b (LQ.mono ha oM) (LQ.mono hb oM) _ _ hs.g) ?_)))));rintro _ _ _ hs rfl;exact lL hs [.v 21 (.bool ((cmpR a b:Int) == (0:Int))),.m 6 21] (lN (kX (hs.ret [] (.bool ((cmpR a b:Int) == (0:Int))) (congrArg Value.bool (knk_2 oM)))))
  try rw[zb] at hs
  try rw[zb]
  have zf:=eq_of_beq zb;refine cIT (cSL (lL hs [.o 12 (qv a) 1 0 5] (lC 13 hs (fSign a (LQ.mono ha oM) _ _ hs.g) ?_)));rintro _ _ _ hs rfl;exact lL hs [.v 14 (.bool ((a.num.sign:Int) == (0:Int))),.m 6 14] (lN (kX (hs.ret [] (.bool ((a.num.sign:Int) == (0:Int))) (congrArg Value.bool (knk_1 oM)))))
 try rw[za] at hs
 try rw[za]
 have ze:=eq_of_beq za;refine cIT (cK (cIT (cSL (lL hs [.o 12 (qv a) 1 0 5] (lC 13 hs (fSign a (LQ.mono ha oM) _ _ hs.g) ?_)))));rintro _ _ _ hs rfl;exact lL hs [.v 14 (.bool ((a.num.sign:Int) == (0:Int))),.m 6 14] (lN (kX (hs.ret [] (.bool ((a.num.sign:Int) == (0:Int))) (congrArg Value.bool (knk_1 oM)))))
theorem tSlopes (s:Stp)(a b:Rat)(K:Nat)(hK:14*K+20≤100000000)(ha:LQ K a)(hb:LQ K b)(hq:LQ 1 s.q)(hK1:1≤K)(hop:1≤s.op∧s.op≤13∧s.op≠2)(hn:s.op=8 → -12≤s.n∧s.n≤12)(hok6:s.op=6→b≠0)(hok:s.op=8→s.n<0→a≠0)(w:World)(h:Hp)(g:G w h)(tb:Tab h):CV 53 #[.agg #[iV s.op,iV s.a,iV s.b,iV s.n,.bool (ineg s.q.num),uV (lo (iabs s.q.num)),.string (hi (iabs s.q.num)),uV (lo (qd s.q)),.string (hi (qd s.q))],qv a,qv b] w h (.tuple #[qv (sla s.op s.n a b),qv (slb s.op a b)]):=by
 have hs:=((sS g).aB tb);have hsg:=sign_bd a.num;refine go Tryz.func53 [(0,.agg #[iV s.op,iV s.a,iV s.b,iV s.n,.bool (ineg s.q.num),uV (lo (iabs s.q.num)),.string (hi (iabs s.q.num)),uV (lo (qd s.q)),.string (hi (qd s.q))]),(1,qv a),(2,qv b)] rfl (cSL (lA 3 110 ([iV s.op,iV s.a,iV s.b,iV s.n,.bool (ineg s.q.num),uV (lo (iabs s.q.num)),.string (hi (iabs s.q.num)),uV (lo (qd s.q)),.string (hi (qd s.q))]) hs (fun b1 w2 h3 hs=>lA 4 55 (qc a) hs (fun b4 w5 h6 hs=>lA 5 55 (qc b) hs (fun b7 w8 h9 hs=>lA 6 55 ([qF,uV 0,eS,uV 0,eS]) hs (fun za _ _ hs=>lA 7 55 ([qF,uV 0,eS,uV 0,eS]) hs (fun zb _ _ hs=>lNS (lC 10 hs (fOf 1 oM oM _ _ hs.g) ?_))))))));rintro _ _ _ hs rfl;refine lL hs [.v 11 (qv 0)] (lA 8 55 ([qF,uV 0,eS,uV 0,eS]) hs (fun zu _ _ hs=>lA 9 55 ([qF,uV 0,eS,uV 0,eS]) hs (fun ze _ _ hs=>lP 1 0 (qc ((1:Int):Rat)) hs (fun _ hs=>lP 0 0 (qc 0) hs (fun _ hs=>lN (cQ (cSL (lL hs [.v 12 (pB b1),.o 13 (iV s.op) 6 0 1] (lN (kZ (cSL ?_)))))))))));cases zf:((s.op:Int) == (3:Int))
 ·
  have zG:=neOfBeq zf;refine lB 15 zf (lL hs [.m 14 15] (lN (cIF (cSL ?_))));cases zg:((s.op:Int) == (4:Int))
  ·
   have zH:=neOfBeq zg;refine lB 19 zg (lL hs [.m 18 19] (lN (cIF (cSL ?_))));cases zi:((s.op:Int) == (5:Int))
   ·
    have zI:=neOfBeq zi;refine lB 24 zi (lL hs [.m 23 24] (lN (cIF (cSL ?_))));cases zj:((s.op:Int) == (6:Int))
    ·
     have zJ:=neOfBeq zj;refine lB 28 zj (lL hs [.m 27 28] (lN (cIF (cSL ?_))));cases zk:((s.op:Int) == (7:Int))
     ·
      have zK:=neOfBeq zk;refine lB 43 zk (lL hs [.m 42 43] (lN (cIF (cSL ?_))));cases zl:((s.op:Int) == (8:Int))
      ·
       have zL:=neOfBeq zl;refine lB 48 zl (lL hs [.m 47 48] (lN (cIF (cSL ?_))));cases zm:((s.op:Int) == (9:Int))
       ·
        have zM:=neOfBeq zm;refine lB 69 zm (lL hs [.m 68 69] (lN (cIF (cSL ?_))));cases zn:((s.op:Int) == (10:Int))
        ·
         have zN:=neOfBeq zn;refine lB 75 zn (lL hs [.m 74 75] (lN (cIF (cSL ?_))));cases zo:((s.op:Int) == (11:Int))
         ·
          have zP:=neOfBeq zo;refine lB 82 zo (lL hs [.m 81 82] (lN (cIF (cQ (cSL ?_)))));cases zp:((s.op:Int) == (12:Int))
          ·
           have zQ:=neOfBeq zp;refine lB 97 zp (lL hs [.m 96 97] (lN (cIF (kQ ?_))));cases zq:((s.op:Int) == (13:Int))
           ·
            have zR:=neOfBeq zq;refine lB 98 zq (lL hs [.m 96 98] (lN (cIF (cK (cQ ?_)))));have hsr:=hs;refine cRz 2 [] [za,zb] mixed hs al_nil (eO 0 111 [(0,0,5)] (qv 0) hs (eOz 1 112 [(0,0,5)] (qv 0) hsr hs ?_ (hM:=fun p hp=>by obtain rfl:=List.mem_singleton.1 hp;exact fun hm=>by rcases List.mem_cons.1 hm with e|hm;exact bx_ne hs.st (i:=0) (j:=3) kR kR kR e;rcases List.mem_cons.1 hm with e|hm;exact bx_ne hs.st (i:=0) (j:=2) kR kR kR e;cases hm)));refine eD0 hs (fun _ _ hs=>tP 2 3 0 (qc 0) hs (fun _ hs=>?_) (hz:=tlz_mem (List.mem_cons_self)));refine tP 3 2 0 (qc 0) hs (fun _ hs=>?_) (hz:=tlz_mem (List.mem_cons_of_mem _<|List.mem_cons_self));exact tN (kX (hs.ret [(3,0,5),(2,0,5)] (.tuple #[qv 0,qv 0]) (by rw[show s.op=1 by omega];rfl)))
           have zR:=eq_of_beq zq;refine lB 98 zq (lL hs [.m 96 98] (lN (cIT (cQ (cQ (cR 8 [] mixed hs al_nil ?_))))));refine eO 0 99 [(5,0,5)] (qv a) hs (eO 1 100 [(4,0,5)] (qv b) hs (eV 4 103 (pB b1) (eO 5 104 [(6,0,1)] (iV s.op) hs ?_)));have zA:((s.op:Int) == (12:Int))=false:=beqF oM;have phb41:=neOfBeq zA;refine eB 6 105 zA (eC 2 101 hs (fun _ _ hs=>fCmp a b (LQ.mono ha oM) (LQ.mono hb oM) _ _ hs.g) ?_);rintro _ _ _ _ _ hs rfl;cases zr:(decide ((0:Int)<(cmpR a b:Int)))
           ·
            have zS:=oF zr;refine eB 3 102 zr (eV 7 106 qT (eD0 hs (fun _ _ hs=>tN (cTo [(6,pB za),(7,pB zb),(8,pB zu),(9,pB ze),(106,qT)] ?_))));refine cIT (cQ ?_);have hsr:=hs;refine cRz 2 [] [za,zb] mixed hs al_nil (eO 0 107 [(1,0,5)] (qv ((1:Int):Rat)) hs (eOz 1 108 [(0,0,5)] (qv 0) hsr hs ?_ (hM:=fun p hp=>by obtain rfl:=List.mem_singleton.1 hp;exact fun hm=>by rcases List.mem_cons.1 hm with e|hm;exact bx_ne hs.st (i:=0) (j:=3) kR kR kR e;rcases List.mem_cons.1 hm with e|hm;exact bx_ne hs.st (i:=0) (j:=2) kR kR kR e;cases hm)));refine eD0 hs (fun _ _ hs=>tP 2 3 0 (qc ((1:Int):Rat)) hs (fun _ hs=>?_) (hz:=tlz_mem (List.mem_cons_self)));refine tP 3 2 0 (qc 0) hs (fun _ hs=>?_) (hz:=tlz_mem (List.mem_cons_of_mem _<|List.mem_cons_self));exact tN (kX (hs.ret [(3,0,5),(2,0,5)] (.tuple #[qv ((1:Int):Rat),qv 0]) (slm_29 oM oM)))
           have zS:=oT zr;refine eB 3 102 zr (eV 7 106 qF (eD0 hs (fun _ _ hs=>tN (cTo [(6,pB za),(7,pB zb),(8,pB zu),(9,pB ze),(106,qF)] ?_))));refine cIF (cK (cQ ?_));have hsr:=hs;refine cRz 2 [] [za,zb] mixed hs al_nil (eO 0 109 [(0,0,5)] (qv 0) hs (eOz 1 110 [(1,0,5)] (qv ((1:Int):Rat)) hsr hs ?_ (hM:=fun p hp=>by obtain rfl:=List.mem_singleton.1 hp;exact fun hm=>by rcases List.mem_cons.1 hm with e|hm;exact bx_ne hs.st (i:=1) (j:=3) kR kR kR e;rcases List.mem_cons.1 hm with e|hm;exact bx_ne hs.st (i:=1) (j:=2) kR kR kR e;cases hm)));refine eD0 hs (fun _ _ hs=>tP 2 3 0 (qc 0) hs (fun _ hs=>?_) (hz:=tlz_mem (List.mem_cons_self)));refine tP 3 2 0 (qc ((1:Int):Rat)) hs (fun _ hs=>?_) (hz:=tlz_mem (List.mem_cons_of_mem _<|List.mem_cons_self));exact tN (kX (hs.ret [(3,0,5),(2,0,5)] (.tuple #[qv 0,qv ((1:Int):Rat)]) (slm_30 oM oM)))
          have zQ:=eq_of_beq zp;refine lB 97 zp (lL hs [.m 96 97] (lN (cIT (cK (cIT (cQ (cQ (cR 8 [] mixed hs al_nil ?_))))))));refine eO 0 99 [(5,0,5)] (qv a) hs (eO 1 100 [(4,0,5)] (qv b) hs (eV 4 103 (pB b1) (eO 5 104 [(6,0,1)] (iV s.op) hs ?_)));have zB:((s.op:Int) == (12:Int))=true:=beqT oM;have phb57:=eq_of_beq zB;refine eB 6 105 zB (eC 2 101 hs (fun _ _ hs=>fCmp a b (LQ.mono ha oM) (LQ.mono hb oM) _ _ hs.g) ?_);rintro _ _ _ _ _ hs rfl;cases zs:(decide ((0:Int)<(cmpR a b:Int)))
          ·
           have zT:=oF zs;refine eB 3 102 zs (eV 7 106 qF (eD0 hs (fun _ _ hs=>tN (cTo [(6,pB za),(7,pB zb),(8,pB zu),(9,pB ze),(106,qF)] ?_))));refine cIF (cK (cQ ?_));have hsr:=hs;refine cRz 2 [] [za,zb] mixed hs al_nil (eO 0 109 [(0,0,5)] (qv 0) hs (eOz 1 110 [(1,0,5)] (qv ((1:Int):Rat)) hsr hs ?_ (hM:=fun p hp=>by obtain rfl:=List.mem_singleton.1 hp;exact fun hm=>by rcases List.mem_cons.1 hm with e|hm;exact bx_ne hs.st (i:=1) (j:=3) kR kR kR e;rcases List.mem_cons.1 hm with e|hm;exact bx_ne hs.st (i:=1) (j:=2) kR kR kR e;cases hm)));refine eD0 hs (fun _ _ hs=>tP 2 3 0 (qc 0) hs (fun _ hs=>?_) (hz:=tlz_mem (List.mem_cons_self)));refine tP 3 2 0 (qc ((1:Int):Rat)) hs (fun _ hs=>?_) (hz:=tlz_mem (List.mem_cons_of_mem _<|List.mem_cons_self));exact tN (kX (hs.ret [(3,0,5),(2,0,5)] (.tuple #[qv 0,qv ((1:Int):Rat)]) (slm_30 oM oM)))
          have zT:=oT zs;refine eB 3 102 zs (eV 7 106 qT (eD0 hs (fun _ _ hs=>tN (cTo [(6,pB za),(7,pB zb),(8,pB zu),(9,pB ze),(106,qT)] ?_))));refine cIT (cQ ?_);have hsr:=hs;refine cRz 2 [] [za,zb] mixed hs al_nil (eO 0 107 [(1,0,5)] (qv ((1:Int):Rat)) hs (eOz 1 108 [(0,0,5)] (qv 0) hsr hs ?_ (hM:=fun p hp=>by obtain rfl:=List.mem_singleton.1 hp;exact fun hm=>by rcases List.mem_cons.1 hm with e|hm;exact bx_ne hs.st (i:=0) (j:=3) kR kR kR e;rcases List.mem_cons.1 hm with e|hm;exact bx_ne hs.st (i:=0) (j:=2) kR kR kR e;cases hm)));refine eD0 hs (fun _ _ hs=>tP 2 3 0 (qc ((1:Int):Rat)) hs (fun _ hs=>?_) (hz:=tlz_mem (List.mem_cons_self)));refine tP 3 2 0 (qc 0) hs (fun _ hs=>?_) (hz:=tlz_mem (List.mem_cons_of_mem _<|List.mem_cons_self));exact tN (kX (hs.ret [(3,0,5),(2,0,5)] (.tuple #[qv ((1:Int):Rat),qv 0]) (slm_29 oM oM)))
         have zP:=eq_of_beq zo;refine lB 82 zo (lL hs [.m 81 82] (lN (cIT (cQ (cR 9 [] mixed hs al_nil ?_)))));refine eO 0 84 [(1,0,5)] (qv ((1:Int):Rat)) hs (eO 1 85 [(1,0,5)] (qv ((1:Int):Rat)) hs (eO 2 86 [(5,0,5)] (qv a) hs ?_));have zD:LQ (K) (qabs a):=LQ.abs ha;refine eC 3 87 hs (fun _ _ hs=>fAbs a (LQ.mono ha oM) _ _ hs.g) ?_;rintro _ _ _ _ _ hs rfl;have zE:=LQ.add (LQ.lit (z:=1) kD) zD;refine eC 4 88 hs (fun _ _ hs=>fAdd ((1:Int):Rat) (qabs a) (LQ.mono (LQ.lit (z:=1) kD) oM) (LQ.mono zD oM) _ _ hs.g hs.f.1) ?_;rintro _ _ _ _ _ hs rfl;have zt:=LQ.div (LQ.lit (z:=1) kD) zE;refine eC 5 89 hs (fun _ _ hs=>fDivN ((1:Int):Rat) (((1:Int):Rat)+(qabs a)) (LQ.mono (LQ.lit (z:=1) kD) oM) (LQ.mono zE oM) (one_abs_ne a) _ _ hs.g hs.f.1) ?_;rintro _ _ _ _ _ hs rfl;refine eV 6 83 (.tuple #[qv (((1:Int):Rat)/(((1:Int):Rat)+(qabs a))),qT]) (eV 7 90 (qv (((1:Int):Rat)/(((1:Int):Rat)+(qabs a)))) (eV 8 91 qT (eD0 hs (fun _ _ hs=>tP 9 3 0 (qc (((1:Int):Rat)/(((1:Int):Rat)+(qabs a)))) hs (fun _ hs=>tN (cTo [(6,pB za),(7,pB zb),(9,pB ze)] ?_))))));refine cQ ?_;have hsr:=hs;refine cRz 4 [] [za,zb] mixed hs al_nil (eO 0 92 [(3,0,5)] (qv (((1:Int):Rat)/(((1:Int):Rat)+(qabs a)))) hs (eO 1 93 [(3,0,5)] (qv (((1:Int):Rat)/(((1:Int):Rat)+(qabs a)))) hs (eOz 3 95 [(0,0,5)] (qv 0) hsr hs ?_ (hM:=fun p hp=>by obtain rfl:=List.mem_singleton.1 hp;exact fun hm=>by rcases List.mem_cons.1 hm with e|hm;exact bx_ne hs.st (i:=0) (j:=3) kR kR kR e;rcases List.mem_cons.1 hm with e|hm;exact bx_ne hs.st (i:=0) (j:=2) kR kR kR e;cases hm))));have hq85:=LQ.mul zt zt;refine eC 2 94 hs (fun _ _ hs=>fMul (((1:Int):Rat)/(((1:Int):Rat)+(qabs a))) (((1:Int):Rat)/(((1:Int):Rat)+(qabs a))) (LQ.mono zt oM) (LQ.mono zt oM) _ _ hs.g hs.f.1) ?_;rintro _ _ _ _ _ hs rfl;refine eD0 hs (fun _ _ hs=>tP 4 3 0 (qc ((((1:Int):Rat)/(((1:Int):Rat)+(qabs a)))*(((1:Int):Rat)/(((1:Int):Rat)+(qabs a))))) hs (fun _ hs=>?_) (hz:=tlz_mem (List.mem_cons_self)));refine tP 5 2 0 (qc 0) hs (fun _ hs=>?_) (hz:=tlz_mem (List.mem_cons_of_mem _<|List.mem_cons_self));exact tN (kX (hs.ret [(3,0,5),(2,0,5)] (.tuple #[qv ((((1:Int):Rat)/(((1:Int):Rat)+(qabs a)))*(((1:Int):Rat)/(((1:Int):Rat)+(qabs a)))),qv 0]) (by rw[show s.op=11 by omega];rfl)))
        have zN:=eq_of_beq zn;refine lB 75 zn (lL hs [.m 74 75] (lN (cIT (cQ ?_))));have hsr:=hs;refine cRz 5 [] [za,zb] mixed hs al_nil (eO 0 76 [(5,0,5)] (qv a) hs (eOz 4 80 [(0,0,5)] (qv 0) hsr hs ?_ (hM:=fun p hp=>by obtain rfl:=List.mem_singleton.1 hp;exact fun hm=>by rcases List.mem_cons.1 hm with e|hm;exact bx_ne hs.st (i:=0) (j:=3) kR kR kR e;rcases List.mem_cons.1 hm with e|hm;exact bx_ne hs.st (i:=0) (j:=2) kR kR kR e;cases hm)));refine eC 1 77 hs (fun _ _ hs=>fSign a (LQ.mono ha oM) _ _ hs.g) ?_;rintro _ _ _ _ _ hs rfl;refine eV 2 78 (iV (max (a.num.sign:Int) (0:Int))) ?_ (hv:=fun _=>rint (n:=(if (0:Int)>(a.num.sign:Int) then (0:Int) else (a.num.sign:Int))) kR (by simp only[imax2]));have hq94:LQ (1) (((max (a.num.sign:Int) (0:Int):Int):Rat)):=LQ.int oM oM;refine eC 3 79 hs (fun _ _ hs=>fOf (max (a.num.sign:Int) (0:Int)) oM oM _ _ hs.g) ?_;rintro _ _ _ _ _ hs rfl;refine eD0 hs (fun _ _ hs=>tP 5 3 0 (qc ((max (a.num.sign:Int) (0:Int):Int):Rat)) hs (fun _ hs=>?_) (hz:=tlz_mem (List.mem_cons_self)));refine tP 6 2 0 (qc 0) hs (fun _ hs=>?_) (hz:=tlz_mem (List.mem_cons_of_mem _<|List.mem_cons_self));exact tN (kX (hs.ret [(3,0,5),(2,0,5)] (.tuple #[qv ((max (a.num.sign:Int) (0:Int):Int):Rat),qv 0]) (by rw[show s.op=10 by omega];rfl)))
       have zM:=eq_of_beq zm;refine lB 69 zm (lL hs [.m 68 69] (lN (cIT (cQ ?_))));have hsr:=hs;refine cRz 4 [] [za,zb] mixed hs al_nil (eO 0 70 [(5,0,5)] (qv a) hs (eOz 3 73 [(0,0,5)] (qv 0) hsr hs ?_ (hM:=fun p hp=>by obtain rfl:=List.mem_singleton.1 hp;exact fun hm=>by rcases List.mem_cons.1 hm with e|hm;exact bx_ne hs.st (i:=0) (j:=3) kR kR kR e;rcases List.mem_cons.1 hm with e|hm;exact bx_ne hs.st (i:=0) (j:=2) kR kR kR e;cases hm)));refine eC 1 71 hs (fun _ _ hs=>fSign a (LQ.mono ha oM) _ _ hs.g) ?_;rintro _ _ _ _ _ hs rfl;have hq103:LQ (1) (((a.num.sign:Int):Rat)):=LQ.int oM oM;refine eC 2 72 hs (fun _ _ hs=>fOf a.num.sign oM oM _ _ hs.g) ?_;rintro _ _ _ _ _ hs rfl;refine eD0 hs (fun _ _ hs=>tP 4 3 0 (qc ((a.num.sign:Int):Rat)) hs (fun _ hs=>?_) (hz:=tlz_mem (List.mem_cons_self)));refine tP 5 2 0 (qc 0) hs (fun _ hs=>?_) (hz:=tlz_mem (List.mem_cons_of_mem _<|List.mem_cons_self));exact tN (kX (hs.ret [(3,0,5),(2,0,5)] (.tuple #[qv ((a.num.sign:Int):Rat),qv 0]) (by rw[show s.op=9 by omega];rfl)))
      have zL:=eq_of_beq zl;refine lB 48 zl (lL hs [.m 47 48] (lN (cIT (cQ (cSL (lL hs [.v 49 (qP b1 3),.o 50 (iV s.n) 6 3 1] ?_))))));cases zc:((s.n:Int) == (0:Int))
      ·
       have zF:=neOfBeq zc;refine lB 51 zc (lN (cIF (cK (cSL (lL hs [.o 55 (qv a) 5 0 5,.v 56 (qP b1 3),.o 57 (iV s.n) 6 3 1] (lI 58 (s.n-1) ?_))))));refine lC 59 hs (tPower a (s.n-1) K hK ha (by have:=hn oM;omega) (fun h0=>hok oM oM) _ _ hs.g hs.f.1) ?_;rintro _ _ _ hs rfl;have hpw:=lq_powq (n:=s.n-1) hK1 ha (by have:=hn oM;omega);refine lL hs [.m 54 59,.v 60 (qv (powq a (s.n-1))),.v 61 qT] (lP 3 0 (qc (powq a (s.n-1))) hs (fun _ hs=>lN (cQ ?_)));have hsr:=hs;refine cRz 6 [] [za,zb] mixed hs al_nil (eO 0 62 [(3,0,5)] (qv (powq a (s.n-1))) hs (eV 1 63 (qP b1 3) (eO 2 64 [(6,3,1)] (iV s.n) hs (eOz 5 67 [(0,0,5)] (qv 0) hsr hs ?_ (hM:=fun p hp=>by obtain rfl:=List.mem_singleton.1 hp;exact fun hm=>by rcases List.mem_cons.1 hm with e|hm;exact bx_ne hs.st (i:=0) (j:=3) kR kR kR e;rcases List.mem_cons.1 hm with e|hm;exact bx_ne hs.st (i:=0) (j:=2) kR kR kR e;cases hm)))));have zv:LQ (1) (((s.n:Int):Rat)):=LQ.int oM oM;refine eC 3 65 hs (fun _ _ hs=>fOf s.n oM oM _ _ hs.g) ?_;rintro _ _ _ _ _ hs rfl;have hq117:=LQ.mul hpw zv;refine eC 4 66 hs (fun _ _ hs=>fMul (powq a (s.n-1)) ((s.n:Int):Rat) (LQ.mono hpw oM) (LQ.mono zv oM) _ _ hs.g hs.f.1) ?_;rintro _ _ _ _ _ hs rfl;refine eD0 hs (fun _ _ hs=>tP 6 3 0 (qc ((powq a (s.n-1))*((s.n:Int):Rat))) hs (fun _ hs=>?_) (hz:=tlz_mem (List.mem_cons_self)));refine tP 7 2 0 (qc 0) hs (fun _ hs=>?_) (hz:=tlz_mem (List.mem_cons_of_mem _<|List.mem_cons_self));refine tN (cTo [(6,pB za),(7,pB zb),(9,pB ze)] ?_);exact kX (hs.ret [(3,0,5),(2,0,5)] (.tuple #[qv ((powq a (s.n-1))*((s.n:Int):Rat)),qv 0]) (by rw[show s.op=8 by omega];unfold sla slb;rw[if_neg kD,if_neg kD,if_neg kD,if_neg kD,if_neg kD,if_pos rfl,if_neg (show ¬s.n=0 by omega)];rfl))
      have zF:=eq_of_beq zc;refine lB 51 zc (lN (cIT (cQ ?_)));have hsr:=hs;refine cRz 2 [] [za,zb] mixed hs al_nil (eO 0 52 [(0,0,5)] (qv 0) hs (eOz 1 53 [(0,0,5)] (qv 0) hsr hs ?_ (hM:=fun p hp=>by obtain rfl:=List.mem_singleton.1 hp;exact fun hm=>by rcases List.mem_cons.1 hm with e|hm;exact bx_ne hs.st (i:=0) (j:=3) kR kR kR e;rcases List.mem_cons.1 hm with e|hm;exact bx_ne hs.st (i:=0) (j:=2) kR kR kR e;cases hm)));refine eD0 hs (fun _ _ hs=>tP 2 3 0 (qc 0) hs (fun _ hs=>?_) (hz:=tlz_mem (List.mem_cons_self)));refine tP 3 2 0 (qc 0) hs (fun _ hs=>?_) (hz:=tlz_mem (List.mem_cons_of_mem _<|List.mem_cons_self));exact tN (kX (hs.ret [(3,0,5),(2,0,5)] (.tuple #[qv 0,qv 0]) (by rw[show s.op=8 by omega,show s.n=0 by omega];rfl)))
     have zK:=eq_of_beq zk;refine lB 43 zk (lL hs [.m 42 43] (lN (cIT (cQ ?_))));have hsr:=hs;refine cRz 3 [] [za,zb] mixed hs al_nil (eO 0 44 [(1,0,5)] (qv ((1:Int):Rat)) hs (eOz 2 46 [(0,0,5)] (qv 0) hsr hs ?_ (hM:=fun p hp=>by obtain rfl:=List.mem_singleton.1 hp;exact fun hm=>by rcases List.mem_cons.1 hm with e|hm;exact bx_ne hs.st (i:=0) (j:=3) kR kR kR e;rcases List.mem_cons.1 hm with e|hm;exact bx_ne hs.st (i:=0) (j:=2) kR kR kR e;cases hm)));have hq128:LQ (1) (-((1:Int):Rat)):=LQ.neg (LQ.lit (z:=1) kD);refine eC 1 45 hs (fun _ _ hs=>fNeg ((1:Int):Rat) (LQ.mono (LQ.lit (z:=1) kD) oM) _ _ hs.g) ?_;rintro _ _ _ _ _ hs rfl;refine eD0 hs (fun _ _ hs=>tP 3 3 0 (qc (-((1:Int):Rat))) hs (fun _ hs=>?_) (hz:=tlz_mem (List.mem_cons_self)));refine tP 4 2 0 (qc 0) hs (fun _ hs=>?_) (hz:=tlz_mem (List.mem_cons_of_mem _<|List.mem_cons_self));exact tN (kX (hs.ret [(3,0,5),(2,0,5)] (.tuple #[qv (-((1:Int):Rat)),qv 0]) (by rw[show s.op=7 by omega];rfl)))
    have zJ:=eq_of_beq zj;refine lB 28 zj (lL hs [.m 27 28] (lN (cIT (cSL (lL hs [.o 30 (qv ((1:Int):Rat)) 1 0 5,.o 31 (qv b) 4 0 5] ?_)))));have zd:=LQ.div (LQ.lit (z:=1) kD) hb;refine lC 32 hs (fDivN ((1:Int):Rat) b (LQ.mono (LQ.lit (z:=1) kD) oM) (LQ.mono hb oM) (num_nz (hok6 oM)) _ _ hs.g hs.f.1) ?_;rintro _ _ _ hs rfl;refine lL hs [.m 29 32,.v 33 (qv (((1:Int):Rat)/b)),.v 34 qT] (lP 3 0 (qc (((1:Int):Rat)/b)) hs (fun _ hs=>lN (cQ ?_)));have hsr:=hs;refine cRz 7 [] [za,zb] mixed hs al_nil (eO 0 35 [(3,0,5)] (qv (((1:Int):Rat)/b)) hs (eOz 1 36 [(5,0,5)] (qv a) hsr hs ?_ (hM:=fun p hp=>by obtain rfl:=List.mem_singleton.1 hp;exact fun hm=>by rcases List.mem_cons.1 hm with e|hm;exact bx_ne hs.st (i:=5) (j:=3) kR kR kR e;rcases List.mem_cons.1 hm with e|hm;exact bx_ne hs.st (i:=5) (j:=2) kR kR kR e;cases hm)));refine eO 2 37 [(3,0,5)] (qv (((1:Int):Rat)/b)) hs (eO 4 39 [(3,0,5)] (qv (((1:Int):Rat)/b)) hs ?_);have zw:=LQ.mul ha zd;refine eC 3 38 hs (fun _ _ hs=>fMul a (((1:Int):Rat)/b) (LQ.mono ha oM) (LQ.mono zd oM) _ _ hs.g hs.f.1) ?_;rintro _ _ _ _ _ hs rfl;have zx:=LQ.mul zw zd;refine eC 5 40 hs (fun _ _ hs=>fMul (a*(((1:Int):Rat)/b)) (((1:Int):Rat)/b) (LQ.mono zw oM) (LQ.mono zd oM) _ _ hs.g hs.f.1) ?_;rintro _ _ _ _ _ hs rfl;have hq145:LQ ((K+(1+K))+(1+K)) (-((a*(((1:Int):Rat)/b))*(((1:Int):Rat)/b))):=LQ.neg zx;refine eC 6 41 hs (fun _ _ hs=>fNeg ((a*(((1:Int):Rat)/b))*(((1:Int):Rat)/b)) (LQ.mono zx oM) _ _ hs.g) ?_;rintro _ _ _ _ _ hs rfl;refine eD0 hs (fun _ _ hs=>tP 7 3 0 (qc (((1:Int):Rat)/b)) hs (fun _ hs=>?_) (hz:=tlz_mem (List.mem_cons_self)));refine tP 8 2 0 (qc (-((a*(((1:Int):Rat)/b))*(((1:Int):Rat)/b)))) hs (fun _ hs=>?_) (hz:=tlz_mem (List.mem_cons_of_mem _<|List.mem_cons_self));exact tN (kX (hs.ret [(3,0,5),(2,0,5)] (.tuple #[qv (((1:Int):Rat)/b),qv (-((a*(((1:Int):Rat)/b))*(((1:Int):Rat)/b)))]) (by rw[show s.op=6 by omega];rfl)))
   have zI:=eq_of_beq zi;refine lB 24 zi (lL hs [.m 23 24] (lN (cIT (cQ ?_))));have hsr:=hs;refine cRz 2 [] [za,zb] mixed hs al_nil (eO 0 25 [(4,0,5)] (qv b) hs (eOz 1 26 [(5,0,5)] (qv a) hsr hs ?_ (hM:=fun p hp=>by obtain rfl:=List.mem_singleton.1 hp;exact fun hm=>by rcases List.mem_cons.1 hm with e|hm;exact bx_ne hs.st (i:=5) (j:=3) kR kR kR e;rcases List.mem_cons.1 hm with e|hm;exact bx_ne hs.st (i:=5) (j:=2) kR kR kR e;cases hm)));refine eD0 hs (fun _ _ hs=>tP 2 3 0 (qc b) hs (fun _ hs=>?_) (hz:=tlz_mem (List.mem_cons_self)));refine tP 3 2 0 (qc a) hs (fun _ hs=>?_) (hz:=tlz_mem (List.mem_cons_of_mem _<|List.mem_cons_self));exact tN (kX (hs.ret [(3,0,5),(2,0,5)] (.tuple #[qv b,qv a]) (by rw[show s.op=5 by omega];rfl)))
  have zH:=eq_of_beq zg;refine lB 19 zg (lL hs [.m 18 19] (lN (cIT (cQ ?_))));have hsr:=hs;refine cRz 3 [] [za,zb] mixed hs al_nil (eO 0 20 [(1,0,5)] (qv ((1:Int):Rat)) hs (eOz 1 21 [(1,0,5)] (qv ((1:Int):Rat)) hsr hs ?_ (hM:=fun p hp=>by obtain rfl:=List.mem_singleton.1 hp;exact fun hm=>by rcases List.mem_cons.1 hm with e|hm;exact bx_ne hs.st (i:=1) (j:=3) kR kR kR e;rcases List.mem_cons.1 hm with e|hm;exact bx_ne hs.st (i:=1) (j:=2) kR kR kR e;cases hm)));have hq156:LQ (1) (-((1:Int):Rat)):=LQ.neg (LQ.lit (z:=1) kD);refine eC 2 22 hs (fun _ _ hs=>fNeg ((1:Int):Rat) (LQ.mono (LQ.lit (z:=1) kD) oM) _ _ hs.g) ?_;rintro _ _ _ _ _ hs rfl;refine eD0 hs (fun _ _ hs=>tP 3 3 0 (qc ((1:Int):Rat)) hs (fun _ hs=>?_) (hz:=tlz_mem (List.mem_cons_self)));refine tP 4 2 0 (qc (-((1:Int):Rat))) hs (fun _ hs=>?_) (hz:=tlz_mem (List.mem_cons_of_mem _<|List.mem_cons_self));exact tN (kX (hs.ret [(3,0,5),(2,0,5)] (.tuple #[qv ((1:Int):Rat),qv (-((1:Int):Rat))]) (by rw[show s.op=4 by omega];rfl)))
 have zG:=eq_of_beq zf;refine lB 15 zf (lL hs [.m 14 15] (lN (cIT (cQ ?_))));have hsr:=hs;refine cRz 2 [] [za,zb] mixed hs al_nil (eO 0 16 [(1,0,5)] (qv ((1:Int):Rat)) hs (eOz 1 17 [(1,0,5)] (qv ((1:Int):Rat)) hsr hs ?_ (hM:=fun p hp=>by obtain rfl:=List.mem_singleton.1 hp;exact fun hm=>by rcases List.mem_cons.1 hm with e|hm;exact bx_ne hs.st (i:=1) (j:=3) kR kR kR e;rcases List.mem_cons.1 hm with e|hm;exact bx_ne hs.st (i:=1) (j:=2) kR kR kR e;cases hm)));refine eD0 hs (fun _ _ hs=>tP 2 3 0 (qc ((1:Int):Rat)) hs (fun _ hs=>?_) (hz:=tlz_mem (List.mem_cons_self)));refine tP 3 2 0 (qc ((1:Int):Rat)) hs (fun _ hs=>?_) (hz:=tlz_mem (List.mem_cons_of_mem _<|List.mem_cons_self));exact tN (kX (hs.ret [(3,0,5),(2,0,5)] (.tuple #[qv ((1:Int):Rat),qv ((1:Int):Rat)]) (by rw[show s.op=3 by omega];rfl)))
theorem tSlopesX (s:Stp)(a b:Rat)(K:Nat)(hK:14*K+20≤100000000)(ha:LQ K a)(hb:LQ K b)(hq:LQ 1 s.q)(hK1:1≤K)(hop:1≤s.op∧s.op≤13∧s.op≠2)(hn:s.op=8 → -12≤s.n∧s.n≤12)(hok6:s.op=6→b≠0)(hok:s.op=8→s.n<0→a≠0)(w:World)(h:Hp)(g:G w h)(tb:Tab h):CR 53 #[stv s,qv a,qv b] w h (fun v _=>∃ da db,v=.tuple #[qv da,qv db]∧da=sla s.op s.n a b∧db=slb s.op a b):=by
  refine (tSlopes s a b K hK ha hb hq hK1 hop hn hok6 hok w h g tb).mono ?_;rintro _ w' ⟨_,h',rfl,u,rfl⟩;exact ⟨_,h',rfl,u,_,_,rfl,rfl,rfl⟩
theorem tArity (op:Int)(w:World)(h:Hp)(g:G w h):CV 54 #[iV op] w h (iV (ari op)):=by
 have hs:=sS g;refine go Tryz.func54 [(0,iV op)] rfl (cSL (lL hs [.v 2 (iV 0)] (lN (cQ (cSL (lL hs [.m 3 0] (lN (kZ (cQ (cSL ?_))))))))));cases hb1:((op:Int) == (1:Int))
 ·
  have phb1:=neOfBeq hb1;refine lB 5 hb1 (lL hs [.m 4 5] (lN (cIF (kQ ?_))));cases hb2:((op:Int) == (2:Int))
  ·
   have phb2:=neOfBeq hb2;refine lB 6 hb2 (lL hs [.m 4 6] (lN (cIF (cQ (cSL ?_)))));cases hb3:((op:Int) == (7:Int))
   ·
    have phb3:=neOfBeq hb3;refine lB 8 hb3 (lL hs [.m 7 8] (lN (cIF (cSL ?_))));cases hb4:((op:Int) == (8:Int))
    ·
     have phb4:=neOfBeq hb4;refine lB 9 hb4 (lL hs [.m 7 9] (lN (cIF (cSL ?_))));cases hb5:((op:Int) == (9:Int))
     ·
      have phb5:=neOfBeq hb5;refine lB 10 hb5 (lL hs [.m 7 10] (lN (cIF (cSL ?_))));cases hb6:((op:Int) == (10:Int))
      ·
       have phb6:=neOfBeq hb6;refine lB 11 hb6 (lL hs [.m 7 11] (lN (cIF (kQ ?_))));cases hb7:((op:Int) == (11:Int))
       ·
        have phb7:=neOfBeq hb7;refine lB 12 hb7 (lL hs [.m 7 12] (lN (cIF (cQ (cSL ?_)))));cases hb8:((op:Int) == (3:Int))
        ·
         have phb8:=neOfBeq hb8;refine lB 14 hb8 (lL hs [.m 13 14] (lN (cIF (cSL ?_))));cases hb9:((op:Int) == (4:Int))
         ·
          have phb9:=neOfBeq hb9;refine lB 15 hb9 (lL hs [.m 13 15] (lN (cIF (cSL ?_))));cases za:((op:Int) == (5:Int))
          ·
           have ze:=neOfBeq za;refine lB 16 za (lL hs [.m 13 16] (lN (cIF (cSL ?_))));cases zb:((op:Int) == (6:Int))
           ·
            have zf:=neOfBeq zb;refine lB 17 zb (lL hs [.m 13 17] (lN (cIF (cSL ?_))));cases zc:((op:Int) == (12:Int))
            ·
             have zg:=neOfBeq zc;refine lB 18 zc (lL hs [.m 13 18] (lN (cIF (kQ ?_))));cases zd:((op:Int) == (13:Int))
             ·
              have zi:=neOfBeq zd;exact lB 19 zd (lL hs [.m 13 19] (lN (cIF (cK (cSL (lL hs [.v 2 (iV (-1))] (lN (kX (hs.ret [] (iV (-1)) (congrArg (Value.int .i64) (by have:=ari_cases op;omega)))))))))))
             have zi:=eq_of_beq zd;exact lB 19 zd (lL hs [.m 13 19] (lN (cIT (cSL (lL hs [.v 2 (iV 2)] (lN (kX (hs.ret [] (iV 2) (congrArg (Value.int .i64) (by have:=ari_cases op;omega))))))))))
            have zg:=eq_of_beq zc;exact lB 18 zc (lL hs [.m 13 18] (lN (cIT (cK (cIT (cSL (lL hs [.v 2 (iV 2)] (lN (kX (hs.ret [] (iV 2) (congrArg (Value.int .i64) (by have:=ari_cases op;omega))))))))))))
           have zf:=eq_of_beq zb;exact lB 17 zb (lL hs [.m 13 17] (lN (cIT (cK (cIT (cSL (lL hs [.v 2 (iV 2)] (lN (kX (hs.ret [] (iV 2) (congrArg (Value.int .i64) (by have:=ari_cases op;omega))))))))))))
          have ze:=eq_of_beq za;exact lB 16 za (lL hs [.m 13 16] (lN (cIT (cK (cIT (cSL (lL hs [.v 2 (iV 2)] (lN (kX (hs.ret [] (iV 2) (congrArg (Value.int .i64) (by have:=ari_cases op;omega))))))))))))
         have phb9:=eq_of_beq hb9;exact lB 15 hb9 (lL hs [.m 13 15] (lN (cIT (cK (cIT (cSL (lL hs [.v 2 (iV 2)] (lN (kX (hs.ret [] (iV 2) (congrArg (Value.int .i64) (by have:=ari_cases op;omega))))))))))))
        have phb8:=eq_of_beq hb8;exact lB 14 hb8 (lL hs [.m 13 14] (lN (cIT (cK (cIT (cSL (lL hs [.v 2 (iV 2)] (lN (kX (hs.ret [] (iV 2) (congrArg (Value.int .i64) (by have:=ari_cases op;omega))))))))))))
       have phb7:=eq_of_beq hb7;exact lB 12 hb7 (lL hs [.m 7 12] (lN (cIT (cSL (lL hs [.v 2 (iV 1)] (lN (kX (hs.ret [] (iV 1) (congrArg (Value.int .i64) (by have:=ari_cases op;omega))))))))))
      have phb6:=eq_of_beq hb6;exact lB 11 hb6 (lL hs [.m 7 11] (lN (cIT (cK (cIT (cSL (lL hs [.v 2 (iV 1)] (lN (kX (hs.ret [] (iV 1) (congrArg (Value.int .i64) (by have:=ari_cases op;omega))))))))))))
     have phb5:=eq_of_beq hb5;exact lB 10 hb5 (lL hs [.m 7 10] (lN (cIT (cK (cIT (cSL (lL hs [.v 2 (iV 1)] (lN (kX (hs.ret [] (iV 1) (congrArg (Value.int .i64) (by have:=ari_cases op;omega))))))))))))
    have phb4:=eq_of_beq hb4;exact lB 9 hb4 (lL hs [.m 7 9] (lN (cIT (cK (cIT (cSL (lL hs [.v 2 (iV 1)] (lN (kX (hs.ret [] (iV 1) (congrArg (Value.int .i64) (by have:=ari_cases op;omega))))))))))))
   have phb3:=eq_of_beq hb3;exact lB 8 hb3 (lL hs [.m 7 8] (lN (cIT (cK (cIT (cSL (lL hs [.v 2 (iV 1)] (lN (kX (hs.ret [] (iV 1) (congrArg (Value.int .i64) (by have:=ari_cases op;omega))))))))))))
  have phb2:=eq_of_beq hb2;exact lB 6 hb2 (lL hs [.m 4 6] (lN (cIT (cSL (lL hs [.v 2 (iV 0)] (lN (kX (hs.ret [] (iV 0) (congrArg (Value.int .i64) (by have:=ari_cases op;omega))))))))))
 have phb1:=eq_of_beq hb1;exact lB 5 hb1 (lL hs [.m 4 5] (lN (cIT (cK (cIT (cSL (lL hs [.v 2 (iV 0)] (lN (kX (hs.ret [] (iV 0) (congrArg (Value.int .i64) (by have:=ari_cases op;omega))))))))))))
theorem tRefers_true (tt:Int)(i rb:Nat)(w:World)(h:Hp)(g:G w h)(ho:Own w rb 3 [nV i])(hj:h[rb]?=some junk):Calls Tryz.prog 150 #[iV tt,.bool true,pB rb] w (RetM rb w h fun v w' _=>v=.bool (decide (0≤(tt:Int)∧(tt:Int)<(i:Nat)))∧Own w' rb 3 [nV i]):=by
 have hmo:UpM [rb] w h w h:=UpM.refl g;obtain ⟨wz,hz,hs⟩:=SS.at_ g ho hj;refine go Tryz.func150 [(0,iV tt),(1,qT),(2,pB rb)] rfl (cSL (lL hs [.v 5 qF] (lN (cQ (cSL (lL hs [.m 6 1] (lN (cIT (cSL (lL hs [.m 7 0] ?_))))))))));cases hb1:(decide ((0:Int)≤(tt:Int)))
 ·
  have phb1:=oF hb1;refine lB 8 hb1 (lL hs [.m 9 8] (lG 10 ?_));exact lG 11 (lG 12 (lL hs [.v 13 qF,.m 5 13] (lN (kX (hs.retM hmo [] qF ⟨congrArg Value.bool (decide_eq_false oM).symm,hs.own 0⟩)))))
 have phb1:=oT hb1;refine lB 8 hb1 (lL hs [.m 9 8,.m 10 0,.o 11 (nV i) 0 0 1] ?_);cases hb2:(decide ((tt:Int)<(i:Int)))
 ·
  have phb2:=oF hb2;exact lB 12 hb2 (lL hs [.v 13 qF,.m 5 13] (lN (kX (hs.retM hmo [] qF ⟨congrArg Value.bool (decide_eq_false oM).symm,hs.own 0⟩))))
 have phb2:=oT hb2;exact lB 12 hb2 (lL hs [.v 13 qT,.m 5 13] (lN (kX (hs.retM hmo [] qT ⟨congrArg Value.bool (decide_eq_true oM).symm,hs.own 0⟩))))
theorem tRefers_false (tt:Int)(i rb:Nat)(w:World)(h:Hp)(g:G w h)(ho:Own w rb 3 [nV i])(hj:h[rb]?=some junk):Calls Tryz.prog 150 #[iV tt,.bool false,pB rb] w (RetM rb w h fun v w' _=>v=.bool (decide ((tt:Int)=0))∧Own w' rb 3 [nV i]):=by
 have hmo:UpM [rb] w h w h:=UpM.refl g;obtain ⟨wz,hz,hs⟩:=SS.at_ g ho hj;refine go Tryz.func150 [(0,iV tt),(1,qF),(2,pB rb)] rfl (cSL (lL hs [.v 5 qF] (lN (cQ (cSL (lL hs [.m 6 1] (lN (cIF (cK (cSL (lL hs [.m 14 0] ?_)))))))))));cases hb1:((tt:Int) == (0:Int))
 ·
  have phb1:=neOfBeq hb1;exact lB 15 hb1 (lL hs [.m 5 15] (lN (kX (hs.retM hmo [] qF ⟨congrArg Value.bool (decide_eq_false oM).symm,hs.own 0⟩))))
 have phb1:=eq_of_beq hb1;exact lB 15 hb1 (lL hs [.m 5 15] (lN (kX (hs.retM hmo [] qT ⟨congrArg Value.bool (decide_eq_true oM).symm,hs.own 0⟩))))
theorem tFormed (inp:Int)(A:Option Addr)(c:Nat)(l:List Stp)(O:Option Addr)(d:Nat)(os:List Int)(i:Nat)(hik:i<l.length)(hl:l.length≤65536)(hq:LQ 1 (l.getD i stp0).q)(w:World)(h:Hp)(g:G w h)(hA:SlO 9 stc stp0 h A l)(hO:Si O os h):CV 93 #[.agg #[iV inp,.slice A ((l).length) c,.slice O ((os).length) d],nV i] w h (.bool (decide (Formed inp i (l.getD i stp0)))):=by
 have hs:=(((sS g).aS hA).aS hO);have hsg:(l.getD i stp0).q.num.sign=0↔(l.getD i stp0).q.num=0:=Int.sign_eq_zero_iff_zero;refine go Tryz.func93 [(0,.agg #[iV inp,qS A ((l).length) c,qS O ((os).length) d]),(1,nV i)] rfl (cSL (lA 2 36 ([iV inp,qS A ((l).length) c,qS O ((os).length) d]) hs (fun b1 w2 h3 hs=>lA 3 3 ([nV i]) hs (fun b4 w5 h6 hs=>lL hs [.v 4 qF] (lNS (lL hs [.v 8 (qP b1 1),.o 9 (qS A ((l).length) c) 1 1 1,.o 10 (nV i) 0 0 1] (lX 11 A ((l).length) c 9 (i:Nat) i ((hs.f.2.1).ok oM) ?_)))))));refine lH 12 (.agg #[iV ((l.getD i stp0).op),iV ((l.getD i stp0).a),iV ((l.getD i stp0).b),iV ((l.getD i stp0).n),.bool (ineg ((l.getD i stp0).q).num),uV (lo (iabs ((l.getD i stp0).q).num)),.string (hi (iabs ((l.getD i stp0).q).num)),uV (lo (qd ((l.getD i stp0).q))),.string (hi (qd ((l.getD i stp0).q)))]) hs ((hs.f.2.1).el i oM) (lA 5 110 ([iV 0,iV 0,iV 0,iV 0,qF,uV 0,eS,uV 0,eS]) hs (fun b7 w8 h9 hs=>lP 0 0 ([iV ((l.getD i stp0).op),iV ((l.getD i stp0).a),iV ((l.getD i stp0).b),iV ((l.getD i stp0).n),.bool (ineg ((l.getD i stp0).q).num),uV (lo (iabs ((l.getD i stp0).q).num)),.string (hi (iabs ((l.getD i stp0).q).num)),uV (lo (qd ((l.getD i stp0).q))),.string (hi (qd ((l.getD i stp0).q)))]) hs (fun _ hs=>lNS (lL hs [.v 13 (pB b7),.o 14 (iV ((l.getD i stp0).op)) 0 0 1] (lC 15 hs (tArity (l.getD i stp0).op _ _ hs.g) ?_)))));rintro _ _ _ hs rfl;have hac:=ari_cases (l.getD i stp0).op;refine lL hs [.m 6 15] (lN (cQ (cSL (lL hs [.m 16 6] ?_))));cases za:(decide ((ari (l.getD i stp0).op:Int)<(0:Int)))
 ·
  have zA:=oF za;refine lB 17 za ?_;refine lN (cIF (cK (cSL (lL hs [.v 18 (.func (.func 150) #[] #[pB b4]),.m 7 18] (lN (cQ (CG.join (fun Γ w_=>∃ (zs:Bool) (h_:Hp),Γ=[(2,pB b1),(4,qF),(5,pB b7),(45,.bool zs)]∧SS w h w_ h_ [⟨b7,110,[iV ((l.getD i stp0).op),iV ((l.getD i stp0).a),iV ((l.getD i stp0).b),iV ((l.getD i stp0).n),.bool (ineg ((l.getD i stp0).q).num),uV (lo (iabs ((l.getD i stp0).q).num)),.string (hi (iabs ((l.getD i stp0).q).num)),uV (lo (qd ((l.getD i stp0).q))),.string (hi (qd ((l.getD i stp0).q)))]⟩,⟨b4,3,[nV i]⟩,⟨b1,36,[iV inp,qS A ((l).length) c,qS O ((os).length) d]⟩] [] [Si O os,fun h_=>SlO 9 stc stp0 h_ A l]∧(zs=true→¬(((0<ari (l.getD i stp0).op→0≤(l.getD i stp0).a∧(l.getD i stp0).a<i)∧(¬0<ari (l.getD i stp0).op→(l.getD i stp0).a=0))∧((1<ari (l.getD i stp0).op→0≤(l.getD i stp0).b∧(l.getD i stp0).b<i)∧(¬1<ari (l.getD i stp0).op→(l.getD i stp0).b=0))∧((l.getD i stp0).op≠1→(l.getD i stp0).q.num=0)))∧(zs=false→(((0<ari (l.getD i stp0).op→0≤(l.getD i stp0).a∧(l.getD i stp0).a<i)∧(¬0<ari (l.getD i stp0).op→(l.getD i stp0).a=0))∧((1<ari (l.getD i stp0).op→0≤(l.getD i stp0).b∧(l.getD i stp0).b<i)∧(¬1<ari (l.getD i stp0).op→(l.getD i stp0).b=0))∧((l.getD i stp0).op≠1→(l.getD i stp0).q.num=0)))) ?_ ?_)))))))
  ·
   refine kQ (lL hs [.m 19 7,.v 20 (qP b7 1),.o 21 (iV ((l.getD i stp0).a)) 0 1 1,.m 22 6] ?_);cases zb:(decide ((0:Int)<(ari (l.getD i stp0).op:Int)))
   ·
    have zB:=oF zb;refine lB 23 zb (lCm 24 (tRefers_false ((l.getD i stp0).a) i b4 _ _ hs.g (hs.own 1) (hs.jk 1)) ?_);rintro _ _ yk u18 ⟨rfl,hO15⟩;replace hs:=(hs.stepM 1 u18 hO15).to [⟨b7,110,[iV ((l.getD i stp0).op),iV ((l.getD i stp0).a),iV ((l.getD i stp0).b),iV ((l.getD i stp0).n),.bool (ineg ((l.getD i stp0).q).num),uV (lo (iabs ((l.getD i stp0).q).num)),.string (hi (iabs ((l.getD i stp0).q).num)),uV (lo (qd ((l.getD i stp0).q))),.string (hi (qd ((l.getD i stp0).q)))]⟩,⟨b4,3,[nV i]⟩,⟨b1,36,[iV inp,qS A ((l).length) c,qS O ((os).length) d]⟩] [];cases zt:(decide (((l.getD i stp0).a:Int)=0))
    ·
     have zD:=oF zt;refine lL hs [.v 25 qT,.m 26 25] (lG 27 ?_);refine lG 28 (lG 29 (lG 30 (lG 31 (lG 32 (lG 33 (lL hs [.v 34 qT,.m 35 34] (lG 36 ?_)))))));refine lG 37 (lG 38 (lG 39 (lG 40 (lG 41 (lG 42 (lG 43 (lG 44 (lL hs [.v 45 qT] (lD ?_)))))))));intro a_ ka;exact ⟨_,⟨true,yk,rfl,hs.to _ _,(fun _=>by omega),(fun h_=>absurd h_ kD)⟩,ka.to _ kR⟩
    have zD:=oT zt;refine lL hs [.v 25 qF,.m 26 25,.m 27 7,.v 28 (qP b7 2),.o 29 (iV ((l.getD i stp0).b)) 0 2 1,.m 30 6] ?_;have ⟨yi,phb22⟩:=dF (p:=(1:Int)<(ari (l.getD i stp0).op:Int)) oM;refine lB 31 yi (lCm 32 (tRefers_false ((l.getD i stp0).b) i b4 _ _ hs.g (hs.own 1) (hs.jk 1)) ?_);rintro _ _ yb u26 ⟨rfl,hO23⟩;replace hs:=(hs.stepM 1 u26 hO23).to [⟨b7,110,[iV ((l.getD i stp0).op),iV ((l.getD i stp0).a),iV ((l.getD i stp0).b),iV ((l.getD i stp0).n),.bool (ineg ((l.getD i stp0).q).num),uV (lo (iabs ((l.getD i stp0).q).num)),.string (hi (iabs ((l.getD i stp0).q).num)),uV (lo (qd ((l.getD i stp0).q))),.string (hi (qd ((l.getD i stp0).q)))]⟩,⟨b4,3,[nV i]⟩,⟨b1,36,[iV inp,qS A ((l).length) c,qS O ((os).length) d]⟩] [];cases zu:(decide (((l.getD i stp0).b:Int)=0))
    ·
     have zE:=oF zu;refine lL hs [.v 33 qT,.v 34 qT,.m 35 34] (lG 36 ?_);refine lG 37 (lG 38 (lG 39 (lG 40 (lG 41 (lG 42 (lG 43 (lG 44 (lL hs [.v 45 qT] (lD ?_)))))))));intro a_ ka;exact ⟨_,⟨true,yb,rfl,hs.to _ _,(fun _=>by omega),(fun h_=>absurd h_ kD)⟩,ka.to _ kR⟩
    have zE:=oT zu;refine lL hs [.v 33 qF,.v 34 qF,.m 35 34,.v 36 (pB b7),.o 37 (iV ((l.getD i stp0).op)) 0 0 1] ?_;cases zc:(((l.getD i stp0).op:Int) != (1:Int))
    ·
     have zF:=eqOfBne zc;refine lB 38 zc (lL hs [.m 39 38] (lG 40 ?_));refine lG 41 (lG 42 (lG 43 (lL hs [.v 44 qF,.v 45 qF] (lD ?_))));intro a_ ka;exact ⟨_,⟨false,yb,rfl,hs.to _ _,(fun h_=>absurd h_ kD),(fun _=>by omega)⟩,ka.to _ kR⟩
    have zF:=neOfBne zc;refine lB 38 zc (lL hs [.m 39 38,.v 40 (qP b7 4),.o 41 (qv ((l.getD i stp0).q)) 0 4 5] (lC 42 hs (fSign (l.getD i stp0).q (hq.mono oM) _ _ hs.g) ?_));rintro _ _ yc hs rfl;cases zd:(((l.getD i stp0).q.num.sign:Int) != (0:Int))
    ·
     have zG:=eqOfBne zd;refine lB 43 zd (lL hs [.v 44 qF,.v 45 qF] (lD ?_));intro a_ ka;exact ⟨_,⟨false,yc,rfl,hs.to _ _,(fun h_=>absurd h_ kD),(fun _=>by omega)⟩,ka.to _ kR⟩
    have zG:=neOfBne zd;refine lB 43 zd (lL hs [.v 44 qT,.v 45 qT] (lD ?_));intro a_ ka;exact ⟨_,⟨true,yc,rfl,hs.to _ _,(fun _=>by omega),(fun h_=>absurd h_ kD)⟩,ka.to _ kR⟩
   have zB:=oT zb;refine lB 23 zb (lCm 24 (tRefers_true ((l.getD i stp0).a) i b4 _ _ hs.g (hs.own 1) (hs.jk 1)) ?_);rintro _ _ yl u43 ⟨rfl,hO40⟩;replace hs:=(hs.stepM 1 u43 hO40).to [⟨b7,110,[iV ((l.getD i stp0).op),iV ((l.getD i stp0).a),iV ((l.getD i stp0).b),iV ((l.getD i stp0).n),.bool (ineg ((l.getD i stp0).q).num),uV (lo (iabs ((l.getD i stp0).q).num)),.string (hi (iabs ((l.getD i stp0).q).num)),uV (lo (qd ((l.getD i stp0).q))),.string (hi (qd ((l.getD i stp0).q)))]⟩,⟨b4,3,[nV i]⟩,⟨b1,36,[iV inp,qS A ((l).length) c,qS O ((os).length) d]⟩] [];cases zv:(decide (0≤((l.getD i stp0).a:Int)∧((l.getD i stp0).a:Int)<(i:Nat)))
   ·
    have zH:=oF zv;refine lL hs [.v 25 qT,.m 26 25] (lG 27 ?_);refine lG 28 (lG 29 (lG 30 (lG 31 (lG 32 (lG 33 (lL hs [.v 34 qT,.m 35 34] (lG 36 ?_)))))));refine lG 37 (lG 38 (lG 39 (lG 40 (lG 41 (lG 42 (lG 43 (lG 44 (lL hs [.v 45 qT] (lD ?_)))))))));intro a_ ka;exact ⟨_,⟨true,yl,rfl,hs.to _ _,(fun _=>by omega),(fun h_=>absurd h_ kD)⟩,ka.to _ kR⟩
   have zH:=oT zv;refine lL hs [.v 25 qF,.m 26 25,.m 27 7,.v 28 (qP b7 2),.o 29 (iV ((l.getD i stp0).b)) 0 2 1,.m 30 6] ?_;cases ze:(decide ((1:Int)<(ari (l.getD i stp0).op:Int)))
   ·
    have zI:=oF ze;refine lB 31 ze (lCm 32 (tRefers_false ((l.getD i stp0).b) i b4 _ _ hs.g (hs.own 1) (hs.jk 1)) ?_);rintro _ _ yd u51 ⟨rfl,hO48⟩;replace hs:=(hs.stepM 1 u51 hO48).to [⟨b7,110,[iV ((l.getD i stp0).op),iV ((l.getD i stp0).a),iV ((l.getD i stp0).b),iV ((l.getD i stp0).n),.bool (ineg ((l.getD i stp0).q).num),uV (lo (iabs ((l.getD i stp0).q).num)),.string (hi (iabs ((l.getD i stp0).q).num)),uV (lo (qd ((l.getD i stp0).q))),.string (hi (qd ((l.getD i stp0).q)))]⟩,⟨b4,3,[nV i]⟩,⟨b1,36,[iV inp,qS A ((l).length) c,qS O ((os).length) d]⟩] [];cases zw:(decide (((l.getD i stp0).b:Int)=0))
    ·
     have zJ:=oF zw;refine lL hs [.v 33 qT,.v 34 qT,.m 35 34] (lG 36 ?_);refine lG 37 (lG 38 (lG 39 (lG 40 (lG 41 (lG 42 (lG 43 (lG 44 (lL hs [.v 45 qT] (lD ?_)))))))));intro a_ ka;exact ⟨_,⟨true,yd,rfl,hs.to _ _,(fun _=>by omega),(fun h_=>absurd h_ kD)⟩,ka.to _ kR⟩
    have zJ:=oT zw;refine lL hs [.v 33 qF,.v 34 qF,.m 35 34,.v 36 (pB b7),.o 37 (iV ((l.getD i stp0).op)) 0 0 1] ?_;cases zf:(((l.getD i stp0).op:Int) != (1:Int))
    ·
     have zK:=eqOfBne zf;refine lB 38 zf (lL hs [.m 39 38] (lG 40 ?_));refine lG 41 (lG 42 (lG 43 (lL hs [.v 44 qF,.v 45 qF] (lD ?_))));intro a_ ka;exact ⟨_,⟨false,yd,rfl,hs.to _ _,(fun h_=>absurd h_ kD),(fun _=>by omega)⟩,ka.to _ kR⟩
    have zK:=neOfBne zf;refine lB 38 zf (lL hs [.m 39 38,.v 40 (qP b7 4),.o 41 (qv ((l.getD i stp0).q)) 0 4 5] (lC 42 hs (fSign (l.getD i stp0).q (hq.mono oM) _ _ hs.g) ?_));rintro _ _ ye hs rfl;cases zg:(((l.getD i stp0).q.num.sign:Int) != (0:Int))
    ·
     have zL:=eqOfBne zg;refine lB 43 zg (lL hs [.v 44 qF,.v 45 qF] (lD ?_));intro a_ ka;exact ⟨_,⟨false,ye,rfl,hs.to _ _,(fun h_=>absurd h_ kD),(fun _=>by omega)⟩,ka.to _ kR⟩
    have zL:=neOfBne zg;refine lB 43 zg (lL hs [.v 44 qT,.v 45 qT] (lD ?_));intro a_ ka;exact ⟨_,⟨true,ye,rfl,hs.to _ _,(fun _=>by omega),(fun h_=>absurd h_ kD)⟩,ka.to _ kR⟩
   have zI:=oT ze;refine lB 31 ze (lCm 32 (tRefers_true ((l.getD i stp0).b) i b4 _ _ hs.g (hs.own 1) (hs.jk 1)) ?_);rintro _ _ yf u68 ⟨rfl,hO65⟩;replace hs:=(hs.stepM 1 u68 hO65).to [⟨b7,110,[iV ((l.getD i stp0).op),iV ((l.getD i stp0).a),iV ((l.getD i stp0).b),iV ((l.getD i stp0).n),.bool (ineg ((l.getD i stp0).q).num),uV (lo (iabs ((l.getD i stp0).q).num)),.string (hi (iabs ((l.getD i stp0).q).num)),uV (lo (qd ((l.getD i stp0).q))),.string (hi (qd ((l.getD i stp0).q)))]⟩,⟨b4,3,[nV i]⟩,⟨b1,36,[iV inp,qS A ((l).length) c,qS O ((os).length) d]⟩] [];cases zx:(decide (0≤((l.getD i stp0).b:Int)∧((l.getD i stp0).b:Int)<(i:Nat)))
   ·
    have zM:=oF zx;refine lL hs [.v 33 qT,.v 34 qT,.m 35 34] (lG 36 ?_);refine lG 37 (lG 38 (lG 39 (lG 40 (lG 41 (lG 42 (lG 43 (lG 44 (lL hs [.v 45 qT] (lD ?_)))))))));intro a_ ka;exact ⟨_,⟨true,yf,rfl,hs.to _ _,(fun _=>by omega),(fun h_=>absurd h_ kD)⟩,ka.to _ kR⟩
   have zM:=oT zx;refine lL hs [.v 33 qF,.v 34 qF,.m 35 34,.v 36 (pB b7),.o 37 (iV ((l.getD i stp0).op)) 0 0 1] ?_;cases zi:(((l.getD i stp0).op:Int) != (1:Int))
   ·
    have zN:=eqOfBne zi;refine lB 38 zi (lL hs [.m 39 38] (lG 40 ?_));refine lG 41 (lG 42 (lG 43 (lL hs [.v 44 qF,.v 45 qF] (lD ?_))));intro a_ ka;exact ⟨_,⟨false,yf,rfl,hs.to _ _,(fun h_=>absurd h_ kD),(fun _=>by omega)⟩,ka.to _ kR⟩
   have zN:=neOfBne zi;refine lB 38 zi (lL hs [.m 39 38,.v 40 (qP b7 4),.o 41 (qv ((l.getD i stp0).q)) 0 4 5] (lC 42 hs (fSign (l.getD i stp0).q (hq.mono oM) _ _ hs.g) ?_));rintro _ _ yg hs rfl;cases zj:(((l.getD i stp0).q.num.sign:Int) != (0:Int))
   ·
    have zP:=eqOfBne zj;refine lB 43 zj (lL hs [.v 44 qF,.v 45 qF] (lD ?_));intro a_ ka;exact ⟨_,⟨false,yg,rfl,hs.to _ _,(fun h_=>absurd h_ kD),(fun _=>by omega)⟩,ka.to _ kR⟩
   have zP:=neOfBne zj;refine lB 43 zj (lL hs [.v 44 qT,.v 45 qT] (lD ?_));intro a_ ka;exact ⟨_,⟨true,yg,rfl,hs.to _ _,(fun _=>by omega),(fun h_=>absurd h_ kD)⟩,ka.to _ kR⟩
  rintro _ _ ⟨zs,_,rfl,hs,yj,hF45⟩;cases zk:(zs)
  ·
   try rw[zk] at hs
   try rw[zk]
   refine cIF (cK (cQ (cSL ?_)));have ym:=hF45 aM;refine lL hs [.v 46 (pB b7),.o 47 (iV ((l.getD i stp0).op)) 0 0 1] (lN (kZ (cSL ?_)));cases zl:(((l.getD i stp0).op:Int) == (2:Int))
   ·
    have zQ:=neOfBeq zl;refine lB 49 zl (lL hs [.m 48 49] (lN (cIF (cSL ?_))));cases zm:(((l.getD i stp0).op:Int) == (8:Int))
    ·
     have zR:=neOfBeq zm;refine lB 61 zm (lL hs [.m 60 61] (lN (cIF (cK (cSL (lL hs [.v 70 (qP b7 3),.o 71 (iV ((l.getD i stp0).n)) 0 3 1] ?_))))));cases zn:(((l.getD i stp0).n:Int) == (0:Int))
     ·
      have zS:=neOfBeq zn;exact lB 72 zn (lL hs [.m 4 72] (lN (kX (hs.ret [] qF (congrArg Value.bool (decide_eq_false (by unfold Formed Refers;omega)).symm)))))
     have zS:=eq_of_beq zn;exact lB 72 zn (lL hs [.m 4 72] (lN (kX (hs.ret [] qT (congrArg Value.bool (decide_eq_true (by unfold Formed Refers;omega)).symm)))))
    have zR:=eq_of_beq zm;refine lB 61 zm (lL hs [.m 60 61] (lN (cIT (cSL (lL hs [.v 62 (qP b7 3),.o 63 (iV ((l.getD i stp0).n)) 0 3 1] ?_)))));cases zo:(decide ((-12:Int)≤((l.getD i stp0).n:Int)))
    ·
     have zT:=oF zo;refine lB 64 zo (lL hs [.m 65 64] (lG 66 ?_));exact lG 67 (lG 68 (lL hs [.v 69 qF,.m 4 69] (lN (kX (hs.ret [] qF (congrArg Value.bool (decide_eq_false (by unfold Formed Refers;omega)).symm))))))
    have zT:=oT zo;refine lB 64 zo (lL hs [.m 65 64,.v 66 (qP b7 3),.o 67 (iV ((l.getD i stp0).n)) 0 3 1] ?_);cases zp:(decide (((l.getD i stp0).n:Int)≤(12:Int)))
    ·
     have zU:=oF zp;exact lB 68 zp (lL hs [.v 69 qF,.m 4 69] (lN (kX (hs.ret [] qF (congrArg Value.bool (decide_eq_false (by unfold Formed Refers;omega)).symm)))))
    have zU:=oT zp;exact lB 68 zp (lL hs [.v 69 qT,.m 4 69] (lN (kX (hs.ret [] qT (congrArg Value.bool (decide_eq_true (by unfold Formed Refers;omega)).symm)))))
   have zQ:=eq_of_beq zl;refine lB 49 zl (lL hs [.m 48 49] (lN (cIT (cSL (lL hs [.v 50 (qP b7 3),.o 51 (iV ((l.getD i stp0).n)) 0 3 1] ?_)))));cases zq:(decide ((0:Int)≤((l.getD i stp0).n:Int)))
   ·
    have zW:=oF zq;refine lB 52 zq (lL hs [.m 53 52] (lG 54 ?_));exact lG 55 (lG 56 (lG 57 (lG 58 (lL hs [.v 59 qF,.m 4 59] (lN (kX (hs.ret [] qF (congrArg Value.bool (decide_eq_false (by unfold Formed Refers;omega)).symm))))))))
   have zW:=oT zq;refine lB 52 zq (lL hs [.m 53 52,.v 54 (qP b7 3),.o 55 (iV ((l.getD i stp0).n)) 0 3 1,.v 56 (pB b1),.o 57 (iV inp) 2 0 1] ?_);cases zr:(decide (((l.getD i stp0).n:Int)<(inp:Int)))
   ·
    have ya:=oF zr;exact lB 58 zr (lL hs [.v 59 qF,.m 4 59] (lN (kX (hs.ret [] qF (congrArg Value.bool (decide_eq_false (by unfold Formed Refers;omega)).symm)))))
   have ya:=oT zr;exact lB 58 zr (lL hs [.v 59 qT,.m 4 59] (lN (kX (hs.ret [] qT (congrArg Value.bool (decide_eq_true (by unfold Formed Refers;omega)).symm)))))
  try rw[zk] at hs
  try rw[zk]
  refine cIT (cSL ?_);have ym:=yj aM;exact lL hs [.v 4 qF] (lN (kX (hs.ret [] qF (congrArg Value.bool (decide_eq_false (by unfold Formed Refers;omega)).symm))))
 have zA:=oT za;exact lB 17 za (lN (cIT (cSL (lL hs [.v 4 qF] (lN (kX (hs.ret [] qF (congrArg Value.bool (decide_eq_false (by unfold Formed Refers;omega)).symm))))))))
theorem tWeight (s:Stp)(V:Option Addr)(n c:Nat)(hv:List Int)(hn:hv.length=n)(k:Nat)(inp:Int)(hF:Formed inp k s)(hW:Wts hv k)(hk:k≤hv.length)(w:World)(h:Hp)(g:G w h)(hV:Si V hv h):CV 94 #[.agg #[iV s.op,iV s.a,iV s.b,iV s.n,.bool (ineg s.q.num),uV (lo (iabs s.q.num)),.string (hi (iabs s.q.num)),uV (lo (qd s.q)),.string (hi (qd s.q))],.slice V n c] w h (iV (weightS s hv)):=by
 have hs:=((sS g).aS hV);have hwb:=hW.weight hF;have hpw:=hW.pow hF;obtain ⟨f0,f1,f2,f3,f4,f5,f6⟩:=hF
 unfold Refers at f1 f2
 have hac:=ari_cases s.op;have hwa:=fun h0=>hW s.a.toNat h0
 have hwc:=fun h0=>hW s.b.toNat h0
 refine go Tryz.func94 [(0,.agg #[iV s.op,iV s.a,iV s.b,iV s.n,.bool (ineg s.q.num),uV (lo (iabs s.q.num)),.string (hi (iabs s.q.num)),uV (lo (qd s.q)),.string (hi (qd s.q))]),(1,qS V n c)] rfl (cSL (lA 2 110 ([iV s.op,iV s.a,iV s.b,iV s.n,.bool (ineg s.q.num),uV (lo (iabs s.q.num)),.string (hi (iabs s.q.num)),uV (lo (qd s.q)),.string (hi (qd s.q))]) hs (fun b1 w2 h3 hs=>lL hs [.v 4 (iV 0)] (lN (cQ (cSL (lL hs [.v 5 (pB b1),.o 6 (iV s.op) 0 0 1] (lC 7 hs (tArity s.op _ _ hs.g) ?_))))))));rintro _ w4 h5 hs rfl;refine lN (kZ (cSL ?_));cases hb6:((ari s.op:Int) == (0:Int))
 ·
  have phb6:=neOfBeq hb6;refine lB 9 hb6 (lL hs [.m 8 9] (lN (cIF (cSL ?_))));cases hb7:((ari s.op:Int) == (2:Int))
  ·
   have phb7:=neOfBeq hb7;refine lB 11 hb7 (lL hs [.m 10 11] (lN (cIF (cK (cQ (cSL (lL hs [.v 23 (pB b1),.o 24 (iV s.op) 0 0 1] (lN (kZ (cSL ?_))))))))));cases hb8:((s.op:Int) == (11:Int))
   ·
    have phb8:=neOfBeq hb8;refine lB 26 hb8 (lL hs [.m 25 26] (lN (cIF (cSL ?_))));cases hb9:((s.op:Int) == (8:Int))
    ·
     have phb9:=neOfBeq hb9;refine lB 34 hb9 (lL hs [.m 33 34] (lN (cIF (cK (cSL (lL hs [.m 47 1,.v 48 (qP b1 1),.o 49 (iV s.a) 0 1 1] (lX 50 V n c 1 s.a s.a.toNat ((hs.f.1).ok oM) ?_)))))));exact lH 51 (iV (hv.getD s.a.toNat 0)) hs ((hs.f.1).el s.a.toNat oM) (lL hs [.m 4 51] (lN (kX (hs.ret [] (iV (hv.getD s.a.toNat 0)) (congrArg (Value.int .i64) (by unfold weightS;first|(rw[if_pos oM])|(rw[if_neg oM,if_pos oM])|(rw[if_neg oM,if_neg oM,if_pos oM])|(rw[if_neg oM,if_neg oM,if_neg oM,if_pos oM])|(rw[if_neg oM,if_neg oM,if_neg oM,if_neg oM])))))))
    have phb9:=eq_of_beq hb9;refine lB 34 hb9 (lL hs [.m 33 34] (lN (cIT (cQ (cR 12 [] mixed hs al_nil ?_)))));refine eV 0 35 (qP b1 3) (eO 1 36 [(0,3,1)] (iV s.n) hs (eV 2 37 (qP b1 3) (eO 3 38 [(0,3,1)] (iV s.n) hs (eI 4 39 (0-s.n) (eV 5 40 (iV (max (max (s.n:Int) (0-s.n:Int)) (1:Int))) ?_ (hv:=fun _=>rint (n:=(if (1:Int)>(if (0-s.n:Int)>(s.n:Int) then (0-s.n:Int) else (s.n:Int)) then (1:Int) else (if (0-s.n:Int)>(s.n:Int) then (0-s.n:Int) else (s.n:Int)))) kR (by simp only[imax2])))))));exact eV 6 41 (qS V n c) (eV 7 42 (qP b1 1) (eO 8 43 [(0,1,1)] (iV s.a) hs (eX 9 44 V n c 1 s.a s.a.toNat ((hs.f.1).ok oM) (eH 10 45 (iV (hv.getD s.a.toNat 0)) hs ((hs.f.1).el s.a.toNat oM) (eI 11 46 ((max (max (s.n:Int) (0-s.n:Int)) (1:Int))*(hv.getD s.a.toNat 0)) (eD0 hs (fun _ _ hs=>tV 12 4 (iV ((max (max (s.n:Int) (0-s.n:Int)) (1:Int))*(hv.getD s.a.toNat 0))) (tN (kX (hs.ret [] (iV ((max (max (s.n:Int) (0-s.n:Int)) (1:Int))*(hv.getD s.a.toNat 0))) (congrArg (Value.int .i64) (by unfold weightS;first|(rw[if_pos oM])|(rw[if_neg oM,if_pos oM])|(rw[if_neg oM,if_neg oM,if_pos oM])|(rw[if_neg oM,if_neg oM,if_neg oM,if_pos oM])|(rw[if_neg oM,if_neg oM,if_neg oM,if_neg oM])))))))))))))
   have phb8:=eq_of_beq hb8;refine lB 26 hb8 (lL hs [.m 25 26] (lN (cIT (cSL (lL hs [.m 27 1,.v 28 (qP b1 1),.o 29 (iV s.a) 0 1 1] (lX 30 V n c 1 s.a s.a.toNat ((hs.f.1).ok oM) ?_))))));exact lH 31 (iV (hv.getD s.a.toNat 0)) hs ((hs.f.1).el s.a.toNat oM) (lI 32 (2*(hv.getD s.a.toNat 0)) (lL hs [.m 4 32] (lN (kX (hs.ret [] (iV (2*(hv.getD s.a.toNat 0))) (congrArg (Value.int .i64) (by unfold weightS;first|(rw[if_pos oM])|(rw[if_neg oM,if_pos oM])|(rw[if_neg oM,if_neg oM,if_pos oM])|(rw[if_neg oM,if_neg oM,if_neg oM,if_pos oM])|(rw[if_neg oM,if_neg oM,if_neg oM,if_neg oM]))))))))
  have phb7:=eq_of_beq hb7;refine lB 11 hb7 (lL hs [.m 10 11] (lN (cIT (cQ (cR 11 [] mixed hs al_nil ?_)))));exact eV 0 12 (qS V n c) (eV 1 13 (qP b1 1) (eO 2 14 [(0,1,1)] (iV s.a) hs (eX 3 15 V n c 1 s.a s.a.toNat ((hs.f.1).ok oM) (eH 4 16 (iV (hv.getD s.a.toNat 0)) hs ((hs.f.1).el s.a.toNat oM) (eV 5 17 (qS V n c) (eV 6 18 (qP b1 2) (eO 7 19 [(0,2,1)] (iV s.b) hs (eX 8 20 V n c 1 s.b s.b.toNat ((hs.f.1).ok oM) (eH 9 21 (iV (hv.getD s.b.toNat 0)) hs ((hs.f.1).el s.b.toNat oM) (eI 10 22 ((hv.getD s.a.toNat 0)+(hv.getD s.b.toNat 0)) (eD0 hs (fun _ _ hs=>tV 11 4 (iV ((hv.getD s.a.toNat 0)+(hv.getD s.b.toNat 0))) (tN (kX (hs.ret [] (iV ((hv.getD s.a.toNat 0)+(hv.getD s.b.toNat 0))) (congrArg (Value.int .i64) (by unfold weightS;first|(rw[if_pos oM])|(rw[if_neg oM,if_pos oM])|(rw[if_neg oM,if_neg oM,if_pos oM])|(rw[if_neg oM,if_neg oM,if_neg oM,if_pos oM])|(rw[if_neg oM,if_neg oM,if_neg oM,if_neg oM]))))))))))))))))))
 have phb6:=eq_of_beq hb6;exact lB 9 hb6 (lL hs [.m 8 9] (lN (cIT (cSL (lL hs [.v 4 (iV 1)] (lN (kX (hs.ret [] (iV 1) (congrArg (Value.int .i64) (by unfold weightS;first|(rw[if_pos oM])|(rw[if_neg oM,if_pos oM])|(rw[if_neg oM,if_neg oM,if_pos oM])|(rw[if_neg oM,if_neg oM,if_neg oM,if_pos oM])|(rw[if_neg oM,if_neg oM,if_neg oM,if_neg oM])))))))))))
theorem tCheck (inp:Int)(A:Option Addr)(c:Nat)(l:List Stp)(O:Option Addr)(d:Nat)(os:List Int)(hl:l.length≤1000000)(ho:os.length≤1000000)(hq:∀ i,i<l.length→LQ 1 (l.getD i stp0).q)(w:World)(h:Hp)(g:G w h)(hA:SlO 9 stc stp0 h A l)(hO:Si O os h):CV 44 #[.agg #[iV inp,.slice A ((l).length) c,.slice O ((os).length) d]] w h (iV (chkTp inp l os)):=by
 have hs:=(((sS g).aS hA).aS hO);refine go Tryz.func44 [(0,.agg #[iV inp,qS A ((l).length) c,qS O ((os).length) d])] rfl (cSL (lA 1 36 ([iV inp,qS A ((l).length) c,qS O ((os).length) d]) hs (fun b1 w2 h3 hs=>lL hs [.v 2 (iV 0)] (lN (cQ (cSL (lL hs [.v 8 (pB b1),.o 9 (iV inp) 0 0 1] ?_)))))));cases hb4:(decide ((inp:Int)<(0:Int)))
 ·
  have phb4:=oF hb4;refine lB 10 hb4 (lL hs [.m 11 10,.v 12 (pB b1),.o 13 (iV inp) 0 0 1] ?_);cases hb5:(decide ((1000:Int)<(inp:Int)))
  ·
   have phb5:=oF hb5;refine lB 14 hb5 (lL hs [.v 15 qF,.m 16 15,.v 17 (qP b1 1),.o 18 (qS A ((l).length) c) 0 1 1,.v 19 (nV ((l).length))] ?_);cases hb6:(decide ((65536:Int)<(((l).length:Nat):Int)))
   ·
    have phb6:=oF hb6;refine lB 20 hb6 (lL hs [.v 21 qF,.m 22 21,.v 23 (qP b1 2),.o 24 (qS O ((os).length) d) 0 2 1,.v 25 (nV ((os).length))] ?_);cases hb7:(decide ((300:Int)<(((os).length:Nat):Int)))
    ·
     have phb7:=oF hb7;refine lB 26 hb7 (lL hs [.v 27 qF] (lN (cIF (cK (cSL (lL hs [.v 28 (qP b1 1),.o 29 (qS A ((l).length) c) 0 1 1,.v 30 (nV ((l).length))] (lK 31 3 ((l).length) 1 8 (iV 0) i64c (0:Int) hs (fun b8 w9 zp hs=>?_))))))));have zn:(List.replicate ((l).length) (0:Int)).length=((l).length):=by simp
     refine lL hs [.m 3 31] (lN (cQ (cSL (lL hs [.v 32 (qP b1 1),.o 33 (qS A ((l).length) c) 1 1 1,.v 34 (nV ((l).length)),.v 35 (iV 0)] (lN (kZ ?_))))));have hsh:0≤inp∧inp≤1000∧l.length≤65536∧os.length≤300:=by omega
     refine cTo _ (CG.loop (fun μ_ Γ w_=>∃ (k:Nat) (L:List Int) (h_:Hp),μ_=l.length-k∧Γ=[(1,pB b1),(3,qS (sB b8) ((l).length) ((l).length)),(33,qS A ((l).length) c),(34,nV ((l).length)),(35,nV k)]∧SS w h w_ h_ [⟨b8,3,(L).flatMap i64c⟩,⟨b1,36,[iV inp,qS A ((l).length) c,qS O ((os).length) d]⟩] [] [Si O os,fun h_=>SlO 9 stc stp0 h_ A l]∧k≤l.length∧L.length=l.length∧Wts L k∧goS inp l []=goS inp (l.drop k) (L.take k)) _ ⟨0,List.replicate ((l).length) (0:Int),zp,rfl,rfl,hs.to _ _,Nat.zero_le _,zn,fun j hj=>absurd hj (Nat.not_lt_zero j),rfl⟩ ?_);rintro _ _ _ ⟨k,L,zq,hm14,rfl,hs,hk,hlL,hWt,hgo⟩;refine cSL ?_;cases za:(decide ((k:Int)<(((l).length:Nat):Int)))
     ·
      have zg:=oF za;refine lB 36 za (lN (cQ (cIF (CG.exit ?_))))
      show CG _ _ _ _ _ _ _ _
      refine cQ (cSL (lL hs [.v 56 (qP b1 2),.o 57 (qS O ((os).length) d) 1 2 1,.v 58 (nV ((os).length)),.v 59 (iV 0)] (lN (kZ ?_))));refine cTo _ (CG.loop (fun μ_ Γ w_=>∃ (j:Nat) (h_:Hp),μ_=os.length-j∧Γ=[(1,pB b1),(57,qS O ((os).length) d),(58,nV ((os).length)),(59,nV j)]∧SS w h w_ h_ [⟨b8,3,(L).flatMap i64c⟩,⟨b1,36,[iV inp,qS A ((l).length) c,qS O ((os).length) d]⟩] [] [Si O os,fun h_=>SlO 9 stc stp0 h_ A l]∧j≤os.length∧(∀ i,i<j→0≤os.getD i 0∧os.getD i 0<l.length)) _ ⟨0,zq,rfl,rfl,hs.to _ _,Nat.zero_le _,fun j hj=>absurd hj (Nat.not_lt_zero j)⟩ ?_);rintro _ _ _ ⟨j,zr,hm18,rfl,hs,hj,hou⟩;refine cSL ?_;cases zb:(decide ((j:Int)<(((os).length:Nat):Int)))
      ·
       have zi:=oF zb;refine lB 60 zb (lN (cQ (cIF (CG.exit ?_))))
       show CG _ _ _ _ _ _ _ _
       exact cSL (lL hs [.v 2 (iV 0)] (lN (kX (hs.ret [] (iV 0) (congrArg (Value.int .i64) (chkTp_ok hsh (by rw[hgo,List.drop_eq_nil_of_le oM];rfl) (fun i hi=>hou i oM)).symm)))))
      have zi:=oT zb;refine lB 60 zb (lN (cQ (cIT (cK (cQ (kZ (cSL (lX 61 O ((os).length) d 1 (j:Nat) j ((hs.f.1).ok oM) ?_))))))));refine lH 62 (iV (os.getD j 0)) hs ((hs.f.1).el j oM) (lL hs [.m 7 62] (lNS (lL hs [.m 63 7] ?_)));cases zc:(decide ((os.getD j 0:Int)<(0:Int)))
      ·
       have zj:=oF zc;refine lB 64 zc (lL hs [.m 65 64,.m 66 7,.v 67 (qP b1 1),.o 68 (qS A ((l).length) c) 1 1 1,.v 69 (nV ((l).length))] ?_);cases zd:(decide ((((l).length:Nat):Int)≤(os.getD j 0:Int)))
       ·
        have zk:=oF zd;refine lB 70 zd (lL hs [.v 71 qF] (lN (cIF (cK (kQ (lIn 72 ((j:Nat)+1) (j+1) ?_))))));refine lL hs [.m 59 72] (lD ?_);intro a_ ka;refine ⟨_,_,?_,⟨j+1,zr,rfl,rfl,hs.to _ _,oM,(fun i hi=>by by_cases e:i=j;(subst e;omega);exact hou i oM)⟩,ka.to _ kR⟩
        omega
       have zk:=oT zd;exact lB 70 zd (lL hs [.v 71 qT] (lN (cIT (cSL (lL hs [.v 2 (iV 1)] (lN (kX (hs.ret [] (iV 1) (congrArg (Value.int .i64) (chkTp_arg hsh (by rw[hgo,List.drop_eq_nil_of_le oM];rfl) (fun h_=>by have:=h_ j oM;omega)).symm)))))))))
      have zj:=oT zc;refine lB 64 zc (lL hs [.m 65 64] (lG 66 ?_));exact lG 67 (lG 68 (lG 69 (lG 70 (lL hs [.v 71 qT] (lN (cIT (cSL (lL hs [.v 2 (iV 1)] (lN (kX (hs.ret [] (iV 1) (congrArg (Value.int .i64) (chkTp_arg hsh (by rw[hgo,List.drop_eq_nil_of_le oM];rfl) (fun h_=>by have:=h_ j oM;omega)).symm))))))))))))
     have zg:=oT za;refine lB 36 za (lN (cQ (cIT (cK (cQ (kZ (cSL (lL hs [.m 37 35] (lX 38 A ((l).length) c 9 (k:Nat) k ((hs.f.2.1).ok oM) ?_)))))))));refine lH 39 (.agg #[iV ((l.getD k stp0).op),iV ((l.getD k stp0).a),iV ((l.getD k stp0).b),iV ((l.getD k stp0).n),.bool (ineg ((l.getD k stp0).q).num),uV (lo (iabs ((l.getD k stp0).q).num)),.string (hi (iabs ((l.getD k stp0).q).num)),uV (lo (qd ((l.getD k stp0).q))),.string (hi (qd ((l.getD k stp0).q)))]) hs ((hs.f.2.1).el k oM) (lA 5 110 ([iV 0,iV 0,iV 0,iV 0,qF,uV 0,eS,uV 0,eS]) hs (fun zs _ _ hs=>lL hs [.m 4 37] (lP 0 0 ([iV ((l.getD k stp0).op),iV ((l.getD k stp0).a),iV ((l.getD k stp0).b),iV ((l.getD k stp0).n),.bool (ineg ((l.getD k stp0).q).num),uV (lo (iabs ((l.getD k stp0).q).num)),.string (hi (iabs ((l.getD k stp0).q).num)),uV (lo (qd ((l.getD k stp0).q))),.string (hi (qd ((l.getD k stp0).q)))]) hs (fun _ hs=>lN (cQ (cSL (lL hs [.o 40 (.agg #[iV inp,qS A ((l).length) c,qS O ((os).length) d]) 2 0 3,.m 41 4] (lC 42 hs (tFormed inp A c l O d os k oM oM (hq k oM) _ _ hs.g hs.f.2.1 hs.f.1) ?_))))))));rintro _ _ _ hs rfl;cases zf:(decide (Formed inp k (l.getD k stp0)))
     ·
      have zl:=oF zf;exact lL hs [.v 43 qT] (lN (cIT (cSL (lL hs [.v 2 (iV 2)] (lN (kX (hs.ret [] (iV 2) (congrArg (Value.int .i64) ((chkTp_go hsh (by rw[hgo,goS_bad oM (by simp;omega) ‹¬Formed inp k (l.getD k stp0)›];decide)).trans (hgo.trans (goS_bad oM (by simp;omega) ‹¬Formed inp k (l.getD k stp0)›))).symm))))))))
     have zl:=oT zf;refine lL hs [.v 43 qF] (lN (cIF (cK (cSL (lL hs [.m 44 3,.m 45 4,.o 46 (.agg #[iV ((l.getD k stp0).op),iV ((l.getD k stp0).a),iV ((l.getD k stp0).b),iV ((l.getD k stp0).n),.bool (ineg ((l.getD k stp0).q).num),uV (lo (iabs ((l.getD k stp0).q).num)),.string (hi (iabs ((l.getD k stp0).q).num)),uV (lo (qd ((l.getD k stp0).q))),.string (hi (qd ((l.getD k stp0).q)))]) 0 0 9,.m 47 3] (lCl 48 1 hs (fun _ g_ f_ sg_=>tWeight (l.getD k stp0) (sB b8) ((l).length) ((l).length) L hlL k inp ‹Formed inp k (l.getD k stp0)› hWt oM _ _ g_ (SlO.of_flat (sz:=1) (f:=i64c) (d:=0) (b:=b8) (o:=0) (l:=L) (fun _=>rfl) sg_)) ?_))))));rintro _ _ zt hs rfl;have hws:=hWt.weight ‹Formed inp k (l.getD k stp0)›;have hgs:(L.set k (weightS (l.getD k stp0) L)).getD k 0=weightS (l.getD k stp0) L:=by rw[List.getD_eq_getElem?_getD,List.getElem?_set_self oM];rfl
     refine lX 49 (sB b8) ((l).length) ((l).length) 1 (k:Nat) k rfl (lW 1 L i64c 1 k (weightS (l.getD k stp0) L) hs oM (fun _ hs=>?_));have zo:((L).set k (weightS (l.getD k stp0) L)).length=((l).length):=by rw[List.length_set];exact hlL
     replace hs:=hs.to [⟨zs,110,[iV ((l.getD k stp0).op),iV ((l.getD k stp0).a),iV ((l.getD k stp0).b),iV ((l.getD k stp0).n),.bool (ineg ((l.getD k stp0).q).num),uV (lo (iabs ((l.getD k stp0).q).num)),.string (hi (iabs ((l.getD k stp0).q).num)),uV (lo (qd ((l.getD k stp0).q))),.string (hi (qd ((l.getD k stp0).q)))]⟩,⟨b8,3,((L).set k (weightS (l.getD k stp0) L)).flatMap i64c⟩,⟨b1,36,[iV inp,qS A ((l).length) c,qS O ((os).length) d]⟩] [];refine lNS (lL hs [.m 50 3,.m 51 4] (lX 52 (sB b8) ((l).length) ((l).length) 1 (k:Nat) k rfl ?_));refine lQ 53 1 ((L).set k (weightS (l.getD k stp0) L)) i64c 1 0 k (iV (((L).set k (weightS (l.getD k stp0) L)).getD k 0)) hs oM ?_;cases ze:(decide ((65536:Int)<(((L).set k (weightS (l.getD k stp0) L)).getD k 0:Int)))
     ·
      have zm:=oF ze;refine lB 54 ze (lN (cIF (cK (kQ (lIn 55 ((k:Nat)+1) (k+1) ?_)))));refine lL hs [.m 35 55] (lD ?_);intro a_ ka;replace hs:=hs.drop 1 0;refine ⟨_,_,?_,⟨k+1,(L).set k (weightS (l.getD k stp0) L),zt,rfl,rfl,hs.to _ _,oM,zo,(hWt.snoc oM hws.1 oM),(hgo.trans ((goS_step oM (by simp;omega) ‹Formed inp k (l.getD k stp0)› (by rw[weight_take ‹Formed inp k (l.getD k stp0)›];omega)).trans (by rw[weight_take ‹Formed inp k (l.getD k stp0)›,take_set_snoc oM])))⟩,ka.to _ kR⟩
      omega
     have zm:=oT ze;exact lB 54 ze (lN (cIT (cSL (lL hs [.v 2 (iV 18)] (lN (kX (hs.ret [] (iV 18) (congrArg (Value.int .i64) ((chkTp_go hsh (by rw[hgo,goS_over oM (by simp;omega) ‹Formed inp k (l.getD k stp0)› (by rw[weight_take ‹Formed inp k (l.getD k stp0)›];omega)];decide)).trans (hgo.trans (goS_over oM (by simp;omega) ‹Formed inp k (l.getD k stp0)› (by rw[weight_take ‹Formed inp k (l.getD k stp0)›];omega)))).symm))))))))
    have phb7:=oT hb7;exact lB 26 hb7 (lL hs [.v 27 qT] (lN (cIT (cSL (lL hs [.v 2 (iV 5)] (lN (kX (hs.ret [] (iV 5) (congrArg (Value.int .i64) (chkTp_shape oM).symm)))))))))
   have phb6:=oT hb6;refine lB 20 hb6 (lL hs [.v 21 qT,.m 22 21] (lG 23 ?_));exact lG 24 (lG 25 (lG 26 (lL hs [.v 27 qT] (lN (cIT (cSL (lL hs [.v 2 (iV 5)] (lN (kX (hs.ret [] (iV 5) (congrArg (Value.int .i64) (chkTp_shape oM).symm)))))))))))
  have phb5:=oT hb5;refine lB 14 hb5 (lL hs [.v 15 qT,.m 16 15] (lG 17 ?_));refine lG 18 (lG 19 (lG 20 (lL hs [.v 21 qT,.m 22 21] (lG 23 ?_))));exact lG 24 (lG 25 (lG 26 (lL hs [.v 27 qT] (lN (cIT (cSL (lL hs [.v 2 (iV 5)] (lN (kX (hs.ret [] (iV 5) (congrArg (Value.int .i64) (chkTp_shape oM).symm)))))))))))
 have phb4:=oT hb4;refine lB 10 hb4 (lL hs [.m 11 10] (lG 12 ?_));refine lG 13 (lG 14 (lL hs [.v 15 qT,.m 16 15] (lG 17 ?_)));refine lG 18 (lG 19 (lG 20 (lL hs [.v 21 qT,.m 22 21] (lG 23 ?_))));exact lG 24 (lG 25 (lG 26 (lL hs [.v 27 qT] (lN (cIT (cSL (lL hs [.v 2 (iV 5)] (lN (kX (hs.ret [] (iV 5) (congrArg (Value.int .i64) (chkTp_shape oM).symm)))))))))))
end Go.Proofs.YtmkcmnhnmajheaaGreatDoor
