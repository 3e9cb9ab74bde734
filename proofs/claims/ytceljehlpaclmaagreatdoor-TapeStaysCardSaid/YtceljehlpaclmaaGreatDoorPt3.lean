/- Laws and contracts that the card of this claim stands on, part 4. No condition of ours. -/
import Derived.Test.YtceljehlpaclmaaGreatDoorPt0
import Derived.Test.YtceljehlpaclmaaGreatDoorPt1
import Derived.Test.YtceljehlpaclmaaGreatDoorPt2
set_option maxRecDepth 100000
set_option maxHeartbeats 4000000
namespace Go.Proofs.YtceljehlpaclmaaGreatDoor
open Go.RowKit
open Go.RowKit Go.Shelf
theorem qText (q:Rat)(hl:LQ 100000000 q)(hq:iabs q.num<100)(hd:q.den<100)(w:World)(h:Hp)(g:G w h):CR 15 #[qv q] w h (fun v _=>∃ s,v=.string s∧s.size≤9):=by
 have hs:=sS g;refine go Tryz.func15 [(0,qv q)] rfl (cSL (lA 1 41 (qc q) hs (fun b1 w2 h3 hs=>lL hs [.v 2 (eS)] (lN (cQ (cSL (lL hs [.o 3 (qv q) 0 0 5] (lC 4 hs (fIsWhole q hl _ _ hs.g) ?_))))))));rintro _ w4 h5 hs rfl;cases hb6:(decide (q.den=1))
 ·
  have phb6:=oF hb6;refine lN (cIF (cK (cQ (cR 8 [] mixed hs al_nil ?_))));refine eV 0 8 (pB b1) (eO 1 9 [(0,0,3)] (iv q.num) hs (eV 4 12 (qP b1 3) (eO 5 13 [(0,3,2)] (nv (qd q)) hs (eC 2 10 hs (fun _ _ hs=>wText q.num hq _ _ hs.g) ?_))));rintro _ _ _ w8 h9 hs ⟨s7,rfl,hs7⟩;refine eV 3 11 (.string ((s7:ByteArray)++(⟨#[47]⟩))) ?_ (hv:=fun _=>opAddS (a:=s7) (b:=⟨#[47]⟩) kR (by have h1_:(s7:ByteArray).size≤100:=(by first|decide|omega|(rw[ByteArray.size_append];first|omega|(have:(⟨#[45]⟩:ByteArray).size=1:=rfl;omega)|(have:(⟨#[47]⟩:ByteArray).size=1:=rfl;omega)));have h2_:(⟨#[47]⟩:ByteArray).size≤100:=(by first|decide|omega);omega));refine eC 6 14 hs (fun _ _ hs=>nText (qd q) (qd_lt hd) _ _ hs.g) ?_;rintro _ _ _ _ _ hs ⟨s10,rfl,hs10⟩;refine eV 7 15 (.string (((s7:ByteArray)++(⟨#[47]⟩):ByteArray)++s10)) ?_ (hv:=fun _=>opAddS (a:=(s7:ByteArray)++(⟨#[47]⟩)) (b:=s10) kR (by have h1_:((s7:ByteArray)++(⟨#[47]⟩):ByteArray).size≤100:=(by first|decide|omega|(rw[ByteArray.size_append];first|omega|(have:(⟨#[45]⟩:ByteArray).size=1:=rfl;omega)|(have:(⟨#[47]⟩:ByteArray).size=1:=rfl;omega)));have h2_:(s10:ByteArray).size≤100:=(by first|decide|omega);omega));exact eD0 hs (fun _ _ hs=>tV 8 2 (.string (((s7:ByteArray)++(⟨#[47]⟩):ByteArray)++s10)) (tN (kX (hs.ret [] (.string (((s7:ByteArray)++(⟨#[47]⟩):ByteArray)++s10)) (⟨_,rfl,by first|omega|(rw[ByteArray.size_append];first|omega|(have:(⟨#[45]⟩:ByteArray).size=1:=rfl;omega))|(rw[ByteArray.size_append,ByteArray.size_append];have:(⟨#[47]⟩:ByteArray).size=1:=rfl;omega)⟩)))))
 have phb6:=oT hb6;refine lN (cIT (cSL (lL hs [.v 5 (pB b1),.o 6 (iv q.num) 0 0 3] (lC 7 hs (wText q.num hq _ _ hs.g) ?_))));rintro _ _ _ hs ⟨s15,rfl,hs15⟩;exact lL hs [.m 2 7] (lN (kX (hs.ret [] (.string s15) (⟨_,rfl,by first|omega|(rw[ByteArray.size_append];first|omega|(have:(⟨#[45]⟩:ByteArray).size=1:=rfl;omega))|(rw[ByteArray.size_append,ByteArray.size_append];have:(⟨#[47]⟩:ByteArray).size=1:=rfl;omega)⟩))))
def u32c (x:Nat):List Value:=[.int .u32 (x:Nat)]
abbrev S3 (A:Option Addr)(l:List Nat):Hp→Prop:=fun h_=>SlO 1 u32c 0 h_ A l
theorem limF_digF:∀ f n:Nat,limF f n=digF 4294967296 f n
  | 0,_=>rfl
  | f+1,n=>by
    unfold limF digF
    split
    · rfl
    · rw[limF_digF f]
theorem lim_dig (n:Nat):lim n=dig 4294967296 n:=limF_digF n n
def Ld (l:List Nat):Prop:=Dg 4294967296 l
theorem Ld.lim (n:Nat):Ld (lim n):=fun x hx=>lim_lt n x hx
theorem Ld.get {l:List Nat}(h:Ld l)(k:Nat):l.getD k 0<4294967296:=Dg.getD h kD k
theorem Ld.set {l:List Nat}(h:Ld l)(k:Nat){x:Nat}(hx:x<4294967296):Ld (l.set k x):=Dg.set h k hx
theorem Ld.rep (n:Nat):Ld (List.replicate n 0):=Dg.rep kD
theorem bval_lim (n:Nat):bval 4294967296 (lim n)=n:=by rw[←nval_bval];exact nval_lim n
theorem lim_of {l:List Nat}(h:Ld l){n:Nat}(e:bval 4294967296 l=n):lim n=l.take (tl l l.length):=by
  rw[←e,←nval_bval];exact lim_nval h
theorem lim_of_len {l:List Nat}(h:Ld l){n:Nat}(e:bval 4294967296 l=n):(lim n).length=tl l l.length:=by
  rw[lim_of h e,List.length_take];have:=tl_le l l.length;omega
theorem lim_lt_pow (n:Nat):n<4294967296^(lim n).length:=by rw[lim_dig];exact lt_dig_len kD n
theorem lim_len_mono {a b:Nat}(h:a≤b):(lim a).length≤(lim b).length:=lim_len_le (Nat.lt_of_le_of_lt h (lim_lt_pow b))
theorem lim_len_le' {a b k:Nat}(h:a≤b)(hb:(lim b).length≤k):(lim a).length≤k:=Nat.le_trans (lim_len_mono h) hb
theorem lim_len_max {a b k:Nat}(ha:(lim a).length≤k)(hb:(lim b).length≤k):(lim (a+b)).length≤k+1:=by
  refine lim_len_le ?_;have h1:=lim_lt_pow a;have h2:=lim_lt_pow b;have h3:4294967296^(lim a).length≤4294967296^k:=Nat.pow_le_pow_right kD ha;have h4:4294967296^(lim b).length≤4294967296^k:=Nat.pow_le_pow_right kD hb;rw[Nat.pow_succ]
  omega
theorem lim_len_mul {a b:Nat}:(lim (a*b)).length≤(lim a).length+(lim b).length:=by
  refine lim_len_le ?_;rw[Nat.pow_add];exact Nat.mul_lt_mul'' (lim_lt_pow a) (lim_lt_pow b)
theorem lim_wds (n:Nat):(lim n).length≤2*(wds n).length:=by
  refine lim_len_le ?_;have:=wds_lt_pow n
  rwa [show (18446744073709551616:Nat)=4294967296^2 by rfl,←Nat.pow_mul] at this
theorem wds_lim (n:Nat):(wds n).length≤(lim n).length:=by
  refine dig_len_le kD ?_;have:=lim_lt_pow n;exact Nat.lt_of_lt_of_le this (Nat.pow_le_pow_left kD _)
theorem lim_cmp_len {a b:Nat}(h:(lim a).length<(lim b).length):a<b:=by
  rcases Nat.lt_or_ge a b with hl|hl
  · exact hl
  · have:=lim_len_mono hl;omega
theorem lim_inj {a b:Nat}(h:lim a=lim b):a=b:=by rw[←nval_lim a,←nval_lim b,h]
theorem lim_cmp_at {a b k:Nat}(hlen:(lim a).length=(lim b).length)(hk:k<(lim a).length)(hd:(lim a).drop (k+1)=(lim b).drop (k+1))(hlt:(lim a).getD k 0<(lim b).getD k 0):a<b:=by
  have ea:=bval_split 4294967296 (l:=lim a) (k:=k+1) oM;have eb:=bval_split 4294967296 (l:=lim b) (k:=k+1) oM;rw[bval_lim] at ea eb
  rw[hd] at ea
  have ta:=bval_take_succ 4294967296 (l:=lim a) (k:=k) hk;have tb:=bval_take_succ 4294967296 (l:=lim b) (k:=k) oM;have la:=bval_lt (Dg.take (Ld.lim a) k);rw[List.length_take,Nat.min_eq_left oM] at la
  have hm:4294967296^k*(lim a).getD k 0+4294967296^k≤4294967296^k*(lim b).getD k 0:=by
    rw[←Nat.mul_succ];exact Nat.mul_le_mul_left _ hlt
  omega
def RN (h:Hp)(v:Value)(n:Nat):Prop:=SlV 1 u32c 0 h v (lim n)
def RI (h:Hp)(v:Value)(z:Int):Prop:=∃ A c,v=.agg #[.bool (ineg z),.slice A (lim (iabs z)).length c]∧(lim (iabs z)).length≤c∧SlO 1 u32c 0 h A (lim (iabs z))
def RP (h:Hp)(v:Value)(z:Int)(n:Nat):Prop:=∃ A c B d,v=.agg #[.bool (ineg z),.slice A (lim (iabs z)).length c,.slice B (lim n).length d]∧(lim (iabs z)).length≤c∧(lim n).length≤d∧SlO 1 u32c 0 h A (lim (iabs z))∧SlO 1 u32c 0 h B (lim n)
def RQ (h:Hp)(v:Value)(q:Rat):Prop:=RP h v q.num q.den
theorem RP.gw {h h':Hp}{v:Value}{z:Int}{n:Nat}(r:RP h v z n)(u:Gw h h'):RP h' v z n:=by
  obtain ⟨A,c,B,d,h1,h2,h3,h4,h5⟩:=r;exact ⟨A,c,B,d,h1,h2,h3,h4.gw u,h5.gw u⟩
theorem RN.trim {h:Hp}{A:Option Addr}{l:List Nat}{n m cap:Nat}(hd:Ld l)(e:bval 4294967296 l=n)(hm:l.length=m)(hc:m≤cap)(s:SlO 1 u32c 0 h A l):RN h (.slice A (tl l m) cap) n:=by
  subst hm;have e1:=lim_of_len hd e;have:=tl_le l l.length;refine ⟨A,cap,by rw[e1],by omega,?_⟩;rw[lim_of hd e];exact s.take _
theorem ri_fin {h:Hp}{p b:Bool}{n cap:Nat}{A:Option Addr}(hb:b=(p && decide (0<n)))(hc:(lim n).length≤cap)(hA:SlO 1 u32c 0 h A (lim n)):RI h (.agg #[.bool b,.slice A (lim n).length cap]) (sgn p n):=by
  subst hb;refine ⟨A,cap,?_,?_,?_⟩
  · rw[ineg_sgn,iabs_sgn]
  · rw[iabs_sgn];exact hc
  · rw[iabs_sgn];exact hA
theorem tl_dec2 {l:List Nat}{m:Nat}(h:0<m)(h0:l.getD (m-1) 0=0):tl l m=tl l (m-1):=by
  obtain ⟨k,rfl⟩:∃ k,m=k+1:=⟨m-1,by omega⟩;rw[tl_succ,if_pos (by simpa using h0)];rfl
theorem put_step {b:Nat}{z:List Nat}{i c c' s t X:Nat}(hi:i<z.length)(h0:z.getD i 0=0)(inv:bval b z+b^i*c=X)(e:s+b*c'=c+t):bval b (z.set i s)+b^(i+1)*c'=X+b^i*t:=by
  have h1:=bval_set b s hi;rw[h0,Nat.mul_zero,Nat.add_zero] at h1
  have e2:=congrArg (b^i * ·) e
  simp only[Nat.mul_add] at e2
  rw[Nat.pow_succ,Nat.mul_assoc,h1]
  omega
theorem put_end {b:Nat}{z:List Nat}{c v:Nat}(inv:bval b z+b^z.length*c=v)(h:v<b^z.length):bval b z=v:=by
  rcases Nat.eq_zero_or_pos c with hc|hc
  · subst hc;rw[Nat.mul_zero,Nat.add_zero] at inv;exact inv
  · have:b^z.length*1≤b^z.length*c:=Nat.mul_le_mul_left _ hc
    omega
theorem zero_put {l:List Nat}{k x:Nat}(hk:k<l.length)(h:∀ i,k≤i→l.getD i 0=0):∀ i,k+1≤i→(l.set k x).getD i 0=0:=fun i hi=>by rw[getD_set' hk,if_neg oM];exact h i oM
theorem bsub_end {b:Nat}{z:List Nat}{x y c:Nat}(hd:Dg b z)(inv:bval b z+y=x+b^z.length*c)(hyx:y≤x):bval b z=x-y:=by
  have h1:=bval_lt hd
  rcases Nat.eq_zero_or_pos c with hc|hc
  · subst hc;rw[Nat.mul_zero,Nat.add_zero] at inv;omega
  · have:b^z.length*1≤b^z.length*c:=Nat.mul_le_mul_left _ hc
    omega
theorem sub_put {b:Nat}{z y x:List Nat}{i c c' s:Nat}(hi:i<z.length)(h0:z.getD i 0=0)(inv:bval b z+bval b (y.take i)=bval b (x.take i)+b^i*c)(e:s+y.getD i 0+c=x.getD i 0+b*c') :
    bval b (z.set i s)+bval b (y.take (i+1))=bval b (x.take (i+1))+b^(i+1)*c':=by
  have h1:=bval_set b s hi;rw[h0,Nat.mul_zero,Nat.add_zero] at h1
  have e2:=congrArg (b^i * ·) e
  simp only[Nat.mul_add] at e2
  rw[bval_take_next,bval_take_next,Nat.pow_succ,Nat.mul_assoc,h1]
  omega
theorem sub32 {x y c t:Nat}(hx:x<4294967296)(hy:y<4294967296)(hc:c≤1)(ht:t=((x+(18446744073709551616-y))%18446744073709551616+(18446744073709551616-c))%18446744073709551616):t%4294967296+y+c=x+4294967296*(t/9223372036854775808)∧t/9223372036854775808≤1:=by
  subst ht
  omega
theorem or_lo2 {r x:Nat}(hx:x<4294967296):r*4294967296 ||| x=r*4294967296+x:=by
  have:=Nat.two_pow_add_eq_or_of_lt (i:=32) (b:=x) oM r;rw[Nat.mul_comm];exact this.symm
theorem div_rem32 {r x d:Nat}(hd0:0<d)(hr:r<d)(hx:x<4294967296)(hd:d<4294967296) :
    (r*4294967296+x)/d%4294967296=(r*4294967296+x)/d∧r*4294967296+x=d*((r*4294967296+x)/d)+(r*4294967296+x)%d∧(r*4294967296+x)%d<d:=by
  refine ⟨Nat.mod_eq_of_lt ?_,(Nat.div_add_mod _ _).symm,Nat.mod_lt _ hd0⟩;rw[Nat.div_lt_iff_lt_mul hd0];have h1:(r+1)*4294967296≤d*4294967296:=Nat.mul_le_mul_right _ hr;rw[Nat.mul_comm]
  omega
theorem one_step {b:Nat}{l z:List Nat}{m d r r' q X:Nat}(hm:0<m)(hl:m-1<z.length)(h0:z.getD (m-1) 0=0)(inv:X=d*bval b z+(b^m*r+bval b (l.take m)))(e:r*b+l.getD (m-1) 0=d*q+r') :
    X=d*bval b (z.set (m-1) q)+(b^(m-1)*r'+bval b (l.take (m-1))):=by
  obtain ⟨k,rfl⟩:∃ k,m=k+1:=⟨m-1,by omega⟩;rw[Nat.add_sub_cancel] at *
  have h1:=bval_set b q hl;rw[h0,Nat.mul_zero,Nat.add_zero] at h1
  have e2:=congrArg (b^k * ·) e
  simp only[Nat.mul_add] at e2
  rw[inv,h1,bval_take_next,Nat.pow_succ,Nat.mul_add];have e3:b^k*(r*b)=b^k*b*r:=by rw[Nat.mul_comm r b,Nat.mul_assoc]
  have e4:b^k*(d*q)=d*(b^k*q):=by ac_rfl
  rw[e3,e4] at e2
  omega
theorem rTrim (A:Option Addr)(c:Nat)(l:List Nat)(m:Nat)(hm:l.length=m)(hl:l.length≤1099511627776)(hc:l.length≤c)(w:World)(h:Hp)(g:G w h)(hA:S3 A l h):CV 114 #[.slice A m c] w h (.slice A (tl l m) c):=by
 have hs:=((sS g).aS hA);refine go Tryz.func114 [(0,qS A m c)] rfl (cSL (lL hs [.v 2 (sZ)] (lNS (lL hs [.m 4 0,.v 5 (nV m),.m 3 5] (lN (cQ (kZ ?_)))))));refine cTo _ (CG.loop (fun μ_ Γ w_=>∃ (n:Nat) (h_:Hp),μ_=n∧Γ=[(0,qS A m c),(2,sZ),(3,nV n)]∧SS w h w_ h_ [] [] [S3 A l]∧n≤m∧tl l m=tl l n) _ ⟨m,h,rfl,rfl,hs.to _ _,nR _,rfl⟩ ?_);rintro _ _ w1 ⟨n,h2,hm3,rfl,hs,hn,ht⟩;refine cQ (cSL (lL hs [.m 6 3] ?_));cases hb4:(decide ((0:Int)<(n:Int)))
 ·
  have phb4:=oF hb4;refine lB 7 hb4 (lL hs [.m 8 7] (lG 9 ?_));refine lG 10 (lG 11 (lG 12 (lG 13 (lG 14 (lL hs [.v 15 qF] (lN (cIF (CG.exit ?_))))))))
  show CG _ _ _ _ _ _ _ _
  refine cSL (lL hs [.m 18 0,.m 19 3] (lT 20 A m c 1 (n:Nat) n ?_));exact lL hs [.m 2 20] (lN (kX (hs.ret [] (qS A n c) (by rw[ht,tl_at oM]))))
 have phb4:=oT hb4;refine lB 7 hb4 (lL hs [.m 8 7,.m 9 0,.m 10 3] (lIn 11 ((n:Nat)-1) (n-1) ?_));refine lX 12 A m c 1 (n-1:Nat) (n-1) ((hs.f.1).ok oM) (lH 13 (mW (l.getD (n-1) 0)) hs ((hs.f.1).el (n-1) oM) ?_);cases hb5:(((l.getD (n-1) 0:Nat):Int) == (0:Int))
 ·
  have phb5:=neOfBeq hb5;refine lB 14 hb5 (lL hs [.v 15 qF] (lN (cIF (CG.exit ?_))))
  show CG _ _ _ _ _ _ _ _
  refine cSL (lL hs [.m 18 0,.m 19 3] (lT 20 A m c 1 (n:Nat) n ?_));exact lL hs [.m 2 20] (lN (kX (hs.ret [] (qS A n c) (by rw[ht,tl_at oM]))))
 have phb5:=eq_of_beq hb5;refine lB 14 hb5 (lL hs [.v 15 qT] (lN (cIT (cK (kZ (kQ (lL hs [.m 16 3] (lIn 17 ((n:Nat)-1) (n-1) ?_))))))));refine lL hs [.m 3 17] (lD ?_);intro a_ ka;refine ⟨_,_,?_,⟨n-1,h2,rfl,rfl,hs.to _ _,oM,(by rw[ht];exact tl_dec2 oM oM)⟩,ka.to _ kR⟩
 omega
theorem natOf_fin {h:Hp}{A:Option Addr}{n cap:Nat}(hn:n<18446744073709551616)(hc:2≤cap)(s:SlO 1 u32c 0 h A [n%4294967296,n/4294967296]):RN h (.slice A (tl [n%4294967296,n/4294967296] 2) cap) n :=
  RN.trim (Dg.cons oM (Dg.one oM)) (by simp only[bval];omega) rfl hc s
theorem rNatOf (n:Nat)(hn:n<18446744073709551616)(w:World)(h:Hp)(g:G w h):CR 89 #[mV n] w h (fun v h=>RN h v n):=by
 have hs:=sS g;refine go Tryz.func89 [(0,mV n)] rfl (cSL (lL hs [.v 2 (sZ)] (lNS (lL hs [.m 3 0] (lV 4 (mW (n%4294967296)) ?_ (hr:=rT ((n:Int)) kR (wrU32 _)))))));refine lL hs [.m 5 0] (lV 6 (mV (n/4294967296)) ?_ (hr:=rint (n:=Int.fdiv (n:Int) 4294967296) kR (fdivNat _ 4294967296)));refine lV 7 (mW (n/4294967296)) ?_ (hr:=rT (((n/4294967296:Nat):Int)) kR (fitU32 oM oM));refine lR 8 151 2 ([mW (n%4294967296),mW (n/4294967296)]) hs (fun b1 w2 h3 hs=>?_);replace hs:=hs.aS (SlO.of_flat (sz:=1) (f:=u32c) (d:=0) (l:=[(n%4294967296),(n/4294967296)]) (fun _=>rfl) hs.f.1);refine lC 9 hs (rTrim (sB b1) 2 ([(n%4294967296),(n/4294967296)]) 2 (by first|rfl|omega|assumption) (by simp) (by simp) _ _ hs.g hs.f.1) ?_;rintro _ w6 h7 hs rfl;exact lL hs [.m 2 9] (lN (kX (hs.ret [] (qS (sB b1) (tl ([(n%4294967296),(n/4294967296)]) 2) 2) (natOf_fin hn oM hs.f.1))))
theorem rI_f (n:Nat)(A:Option Addr)(cap:Nat)(hc:(lim n).length≤cap)(w:World)(h:Hp)(g:G w h)(hA:S3 A (lim n) h):CR 82 #[.bool false,.slice A ((lim n).length) cap] w h (fun v h=>RI h v (sgn false n)):=by
 have hs:=((sS g).aS hA);refine go Tryz.func82 [(0,qF),(1,qS A ((lim n).length) cap)] rfl (cSL (lA 4 54 ([qF,sZ]) hs (fun b1 w2 h3 hs=>lNS (lL hs [.m 5 0,.m 6 5] (lG 7 ?_)))));exact lG 8 (lG 9 (lL hs [.v 10 qF,.m 11 1,.v 12 (.agg #[qF,qS A ((lim n).length) cap])] (lP 0 0 ([qF,qS A ((lim n).length) cap]) hs (fun w4 hs=>lN (kX (hs.ret [(0,0,2)] (.agg #[qF,qS A ((lim n).length) cap]) (ri_fin rfl hc hs.f.1)))))))
theorem rI_t (n:Nat)(A:Option Addr)(cap:Nat)(hc:(lim n).length≤cap)(w:World)(h:Hp)(g:G w h)(hA:S3 A (lim n) h):CR 82 #[.bool true,.slice A ((lim n).length) cap] w h (fun v h=>RI h v (sgn true n)):=by
 have hs:=((sS g).aS hA);have hp:=@lim_pos n;refine go Tryz.func82 [(0,qT),(1,qS A ((lim n).length) cap)] rfl (cSL (lA 4 54 ([qF,sZ]) hs (fun b1 w2 h3 hs=>lNS (lL hs [.m 5 0,.m 6 5,.m 7 1,.v 8 (nV ((lim n).length))] ?_))));cases hb4:(decide ((0:Int)<(((lim n).length:Nat):Int)))
 ·
  have phb4:=oF hb4;exact lB 9 hb4 (lL hs [.v 10 qF,.m 11 1,.v 12 (.agg #[qF,qS A ((lim n).length) cap])] (lP 0 0 ([qF,qS A ((lim n).length) cap]) hs (fun w5 hs=>lN (kX (hs.ret [(0,0,2)] (.agg #[qF,qS A ((lim n).length) cap]) (ri_fin (by simp only[Bool.true_and];first|(symm;exact decide_eq_true oM)|(symm;exact decide_eq_false oM)) hc hs.f.1))))))
 have phb4:=oT hb4;exact lB 9 hb4 (lL hs [.v 10 qT,.m 11 1,.v 12 (.agg #[qT,qS A ((lim n).length) cap])] (lP 0 0 ([qT,qS A ((lim n).length) cap]) hs (fun w6 hs=>lN (kX (hs.ret [(0,0,2)] (.agg #[qT,qS A ((lim n).length) cap]) (ri_fin (by simp only[Bool.true_and];first|(symm;exact decide_eq_true oM)|(symm;exact decide_eq_false oM)) hc hs.f.1))))))
theorem rI (p:Bool)(n:Nat)(A:Option Addr)(cap:Nat)(hc:(lim n).length≤cap)(w:World)(h:Hp)(g:G w h)(hA:S3 A (lim n) h):CR 82 #[.bool p,.slice A (lim n).length cap] w h (fun v h=>RI h v (sgn p n)):=by
  cases p
  · exact rI_f n A cap hc w h g hA
  · exact rI_t n A cap hc w h g hA
theorem rIntOf_neg (z:Int)(h0:z<0)(h1 : -9223372036854775808≤z)(w:World)(h:Hp)(g:G w h):CR 48 #[iV z] w h (fun v h=>RI h v (sgn true (iabs z))):=by
 have hs:=sS g;have hi:iabs z≤9223372036854775808:=by unfold iabs;omega
 refine go Tryz.func48 [(0,iV z)] rfl (cSL (lA 2 54 ([qF,sZ]) hs (fun b1 w2 h3 hs=>lN (cQ (cSL (lL hs [.m 3 0] ?_))))));have ⟨hb4,phb4⟩:=dT (p:=(z:Int)<(0:Int)) oM;refine lB 4 hb4 (lN (cIT (cSL (lL hs [.m 5 0] (lV 6 (mV (18446744073709551616-iabs z)) ?_ (hr:=rU (z) kR (by rw[IntKind.wrap_u64];unfold iabs;omega)))))));refine lV 7 (mV (iabs z)) ?_ (hr:=rU ((0-((18446744073709551616-iabs z:Nat):Int))) kR (by rw[IntKind.wrap_u64];omega));refine lC 8 hs (rNatOf (iabs z) oM _ _ hs.g) ?_;rintro _ w9 _ hs ⟨A5,c6,rfl,hc7,hA8⟩;replace hs:=hs.aS hA8;refine lC 9 hs (rI true (iabs z) A5 c6 hc7 _ _ hs.g hs.f.1) ?_;rintro _ _ _ hs ⟨za,zb,rfl,zc,zd⟩;replace hs:=hs.aS zd;exact lP 0 0 ([.bool (ineg (sgn true (iabs z))),qS za ((lim (iabs (sgn true (iabs z)))).length) zb]) hs (fun _ hs=>lN (kX (hs.ret [(0,0,2)] (.agg #[.bool (ineg (sgn true (iabs z))),qS za ((lim (iabs (sgn true (iabs z)))).length) zb]) (⟨_,_,rfl,zc,hs.f.1⟩))))
theorem rIntOf_pos (z:Nat)(h1:z<9223372036854775808)(w:World)(h:Hp)(g:G w h):CR 48 #[nV z] w h (fun v h=>RI h v (sgn false z)):=by
 have hs:=sS g;refine go Tryz.func48 [(0,nV z)] rfl (cSL (lA 2 54 ([qF,sZ]) hs (fun b1 w2 h3 hs=>lN (cQ (cSL (lL hs [.m 3 0] ?_))))));have ⟨hb4,phb4⟩:=dF (p:=(z:Int)<(0:Int)) oM;refine lB 4 hb4 (lN (cIF (cK (cSL (lL hs [.m 10 0] (lV 11 (mV z) ?_ (hr:=rU ((z:Int)) kR (fitU64 oM oM))))))));refine lC 12 hs (rNatOf z oM _ _ hs.g) ?_;rintro _ w9 _ hs ⟨A5,c6,rfl,hc7,hA8⟩;replace hs:=hs.aS hA8;refine lC 13 hs (rI false z A5 c6 hc7 _ _ hs.g hs.f.1) ?_;rintro _ _ _ hs ⟨za,zb,rfl,zc,zd⟩;replace hs:=hs.aS zd;exact lP 0 0 ([.bool (ineg (sgn false z)),qS za ((lim (iabs (sgn false z))).length) zb]) hs (fun _ hs=>lN (kX (hs.ret [(0,0,2)] (.agg #[.bool (ineg (sgn false z)),qS za ((lim (iabs (sgn false z))).length) zb]) (⟨_,_,rfl,zc,hs.f.1⟩))))
theorem rIntOf (z:Int)(h0 : -9223372036854775808≤z)(h1:z<9223372036854775808)(w:World)(h:Hp)(g:G w h):CR 48 #[iV z] w h (fun v h=>RI h v z):=by
  rcases Int.lt_or_le z 0 with hz|hz
  · have e:sgn true (iabs z)=z:=by unfold sgn iabs;simp;omega
    have:=rIntOf_neg z hz h0 w h g;rw[e] at this
    exact this
  · obtain ⟨n,rfl⟩:=Int.eq_ofNat_of_zero_le hz
    exact rIntOf_pos n oM w h g
theorem rNatCmp (a:Nat)(A:Option Addr)(c:Nat)(hc:(lim a).length≤c)(b:Nat)(D:Option Addr)(d:Nat)(hd:(lim b).length≤d)(hLa:(lim a).length≤4000000000)(hLb:(lim b).length≤4000000000)(w:World)(h:Hp)(g:G w h)(hA:S3 A (lim a) h)(hD:S3 D (lim b) h):CV 81 #[.slice A ((lim a).length) c,.slice D ((lim b).length) d] w h (iV (cmpN a b)):=by
 have hs:=(((sS g).aS hA).aS hD);refine go Tryz.func81 [(0,qS A ((lim a).length) c),(1,qS D ((lim b).length) d)] rfl (cSL (lL hs [.v 4 (iV 0)] (lN (cQ (cSL (lL hs [.m 6 0,.v 7 (nV ((lim a).length)),.m 8 1,.v 9 (nV ((lim b).length))] ?_))))));cases hb1:((((lim a).length:Nat):Int) != (((lim b).length:Nat):Int))
 ·
  have phb1:=eqOfBne hb1;refine lB 10 hb1 (lN (cIF (cK (cQ (cSL (lL hs [.m 16 0,.v 17 (nV ((lim a).length))] (lV 18 (iV ((((lim a).length:Nat):Int)-1)) ?_ (hr:=rS ((((lim a).length:Nat)-1)) kR ((wr64 oM oM).trans oM)))))))));refine lL hs [.m 5 18] (lN (kZ ?_));refine cTo _ (CG.loop (fun μ_ Γ w_=>∃ (m:Nat) (h_:Hp),μ_=m∧Γ=[(0,qS A ((lim a).length) c),(1,qS D ((lim b).length) d),(5,iV ((m:Int)-1))]∧SS w h w_ h_ [] [] [S3 D (lim b),S3 A (lim a)]∧m≤(lim a).length∧(lim a).length=(lim b).length∧(lim a).drop m=(lim b).drop m) _ ⟨(lim a).length,h,rfl,rfl,hs.to _ _,nR _,oM,(by rw[List.drop_eq_nil_of_le oM,List.drop_eq_nil_of_le oM])⟩ ?_);rintro _ _ w2 ⟨m,h3,hm4,rfl,hs,hm,hlen,hdr⟩;refine cQ (cSL (lL hs [.m 19 5] ?_));cases hb5:(decide ((0:Int)≤((m:Int)-1:Int)))
  ·
   have phb5:=oF hb5;refine lB 20 hb5 (lN (cIF (CG.exit ?_)))
   show CG _ _ _ _ _ _ _ _
   exact cSL (lL hs [.v 4 (iV 0)] (lN (kX (hs.ret [] (iV 0) (by rw[cmpN_eq (lim_inj (by obtain rfl:m=0:=oM;simpa using hdr))])))))
  have phb5:=oT hb5;refine lB 20 hb5 (lN (cIT (cK (cQ (kZ (cQ (cR 9 [] mixed hs al_nil ?_)))))));refine eV 0 23 (qS A ((lim a).length) c) (eV 1 24 (iV ((m:Int)-1)) (eX 2 25 A ((lim a).length) c 1 ((m:Int)-1) (m-1) ((hs.f.2.1).ok oM) (eH 3 26 (mW ((lim a).getD (m-1) 0)) hs ((hs.f.2.1).el (m-1) oM) (eV 4 27 (qS D ((lim b).length) d) (eV 5 28 (iV ((m:Int)-1)) (eX 6 29 D ((lim b).length) d 1 ((m:Int)-1) (m-1) ((hs.f.1).ok oM) (eH 7 30 (mW ((lim b).getD (m-1) 0)) hs ((hs.f.1).el (m-1) oM) ?_)))))));cases hb6:((((lim a).getD (m-1) 0:Nat):Int) != (((lim b).getD (m-1) 0:Nat):Int))
  ·
   have phb6:=eqOfBne hb6;refine eB 8 31 hb6 (eD0 hs (fun w7 h8 hs=>tN (cIF (cK (kQ (lL hs [.m 21 5] (lV 22 (iV (((m-1:Nat):Int)-1)) ?_ (hr:=rS ((((m:Int)-1)-1)) kR ((wr64 oM oM).trans oM)))))))));refine lL hs [.m 5 22] (lD ?_);intro a_ ka;refine ⟨_,_,?_,⟨m-1,h8,rfl,rfl,hs.to _ _,oM,hlen,(drop_eq_step (k:=m-1) hlen oM (by rw[show m-1+1=m by omega];exact hdr) oM)⟩,ka.to _ kR⟩
   omega
  have phb6:=neOfBne hb6;refine eB 8 31 hb6 (eD0 hs (fun _ _ hs=>tN (cIT (cQ (cQ (cR 9 [] mixed hs al_nil ?_))))));refine eV 0 32 (qS A ((lim a).length) c) (eV 1 33 (iV ((m:Int)-1)) (eX 2 34 A ((lim a).length) c 1 ((m:Int)-1) (m-1) ((hs.f.2.1).ok oM) (eH 3 35 (mW ((lim a).getD (m-1) 0)) hs ((hs.f.2.1).el (m-1) oM) (eV 4 36 (qS D ((lim b).length) d) (eV 5 37 (iV ((m:Int)-1)) (eX 6 38 D ((lim b).length) d 1 ((m:Int)-1) (m-1) ((hs.f.1).ok oM) (eH 7 39 (mW ((lim b).getD (m-1) 0)) hs ((hs.f.1).el (m-1) oM) ?_)))))));cases za:(decide ((((lim a).getD (m-1) 0:Nat):Int)<(((lim b).getD (m-1) 0:Nat):Int)))
  ·
   have zc:=oF za;exact eB 8 40 za (eD0 hs (fun _ _ hs=>tN (cIF (cK (cSL (lL hs [.v 4 (iV 1)] (lN (kX (hs.ret [] (iV 1) (by rw[cmpN_gt (by first|exact lim_cmp_len oM|exact lim_cmp_at (k:=m-1) oM oM (by rw[show m-1+1=m by omega];exact hdr.symm) oM)]))))))))))
  have zc:=oT za;exact eB 8 40 za (eD0 hs (fun _ _ hs=>tN (cIT (cSL (lL hs [.v 4 (iV (-1))] (lN (kX (hs.ret [] (iV (-1)) (by rw[cmpN_lt (by first|exact lim_cmp_len oM|exact lim_cmp_at (k:=m-1) oM oM (by rw[show m-1+1=m by omega];exact hdr) oM)])))))))))
 have phb1:=neOfBne hb1;refine lB 10 hb1 (lN (cIT (cQ (cSL (lL hs [.m 11 0,.v 12 (nV ((lim a).length)),.m 13 1,.v 14 (nV ((lim b).length))] ?_)))));cases zb:(decide ((((lim a).length:Nat):Int)<(((lim b).length:Nat):Int)))
 ·
  have zd:=oF zb;exact lB 15 zb (lN (cIF (cK (cSL (lL hs [.v 4 (iV 1)] (lN (kX (hs.ret [] (iV 1) (by rw[cmpN_gt (by first|exact lim_cmp_len oM|exact lim_cmp_at (k:=m-1) oM oM (by rw[show m-1+1=m by omega];exact hdr.symm) oM)])))))))))
 have zd:=oT zb;exact lB 15 zb (lN (cIT (cSL (lL hs [.v 4 (iV (-1))] (lN (kX (hs.ret [] (iV (-1)) (by rw[cmpN_lt (by first|exact lim_cmp_len oM|exact lim_cmp_at (k:=m-1) oM oM (by rw[show m-1+1=m by omega];exact hdr) oM)]))))))))
theorem rAt (A:Option Addr)(c:Nat)(l:List Nat)(m:Nat)(hm:l.length=m)(i:Nat)(hi:i≤1099511627776)(hd:Ld l)(w:World)(h:Hp)(g:G w h)(hA:S3 A l h):CV 146 #[.slice A m c,nV i] w h (mV (l.getD i 0)):=by
 have hs:=((sS g).aS hA);have hdi:=hd.get i;refine go Tryz.func146 [(0,qS A m c),(1,nV i)] rfl (cSL (lL hs [.v 4 (uV 0)] (lN (cQ (cSL (lL hs [.m 5 1,.m 6 0,.v 7 (nV m)] ?_))))));cases hb1:(decide ((i:Int)<(m:Int)))
 ·
  have phb1:=oF hb1;exact lB 8 hb1 (lN (cIF (cK (cSL (lL hs [.v 4 (uV 0)] (lN (kX (hs.ret [] (uV 0) (by rw[getD_out oM];rfl)))))))))
 have phb1:=oT hb1;refine lB 8 hb1 (lN (cIT (cSL (lL hs [.m 9 0,.m 10 1] (lX 11 A m c 1 (i:Nat) i ((hs.f.1).ok oM) ?_)))));refine lH 12 (mW (l.getD i 0)) hs ((hs.f.1).el i oM) (lV 13 (mV (l.getD i 0)) ?_ (hr:=rU (((l.getD i 0:Nat):Int)) kR (fitU64 oM oM)));exact lL hs [.m 4 13] (lN (kX (hs.ret [] (mV (l.getD i 0)) rfl)))
theorem rNatAdd (a:Nat)(A:Option Addr)(c:Nat)(hc:(lim a).length≤c)(b:Nat)(D:Option Addr)(d:Nat)(hd:(lim b).length≤d)(hLa:(lim a).length≤4000000000)(hLb:(lim b).length≤4000000000)(w:World)(h:Hp)(g:G w h)(hA:S3 A (lim a) h)(hD:S3 D (lim b) h):CR 160 #[.slice A ((lim a).length) c,.slice D ((lim b).length) d] w h (fun v h1=>RN h1 v (a+b)):=by
 have hs:=(((sS g).aS hA).aS hD);refine go Tryz.func160 [(0,qS A ((lim a).length) c),(1,qS D ((lim b).length) d)] rfl (cSL (lL hs [.v 4 (sZ)] (lNS (lL hs [.m 9 0,.v 10 (nV ((lim a).length)),.m 11 1,.v 12 (nV ((lim b).length))] (lV 13 (nV (max (lim a).length (lim b).length)) ?_ (hr:=rint (n:=if (((lim b).length:Nat):Int)>(((lim a).length:Nat):Int) then (((lim b).length:Nat):Int) else (((lim a).length:Nat):Int)) kR (by split<;>omega)))))));refine lL hs [.m 5 13] (lNS (lL hs [.m 14 5] (lIn 15 (((max (lim a).length (lim b).length):Nat)+1) (((max (lim a).length (lim b).length):Nat)+1) ?_)));refine lK 16 151 (((max (lim a).length (lim b).length):Nat)+1:Nat) 1 4 (uW 0) u32c 0 hs (fun b1 w2 h3 hs=>?_);have hl4:(List.replicate (((max (lim a).length (lim b).length):Nat)+1:Nat) 0).length=(((max (lim a).length (lim b).length):Nat)+1:Nat):=by simp
 refine lL hs [.m 6 16] (lNS (lL hs [.v 7 (uV 0)] (lN (cQ (cSL (lL hs [.v 8 (iV 0)] (lN (kZ ?_))))))));refine cTo _ (CG.loop (fun μ_ Γ w_=>∃ (i:Nat) (z:List Nat) (cy:Nat) (h_:Hp),μ_=(max (lim a).length (lim b).length)+1-i∧Γ=[(0,qS A ((lim a).length) c),(1,qS D ((lim b).length) d),(4,sZ),(5,nV (max (lim a).length (lim b).length)),(6,qS (sB b1) (((max (lim a).length (lim b).length):Nat)+1:Nat) (((max (lim a).length (lim b).length):Nat)+1:Nat)),(8,nV i),(7,mV cy)]∧SS w h w_ h_ [⟨b1,151,(z).flatMap u32c⟩] [] [S3 D (lim b),S3 A (lim a)]∧i≤(max (lim a).length (lim b).length)+1∧z.length=(max (lim a).length (lim b).length)+1∧Ld z∧cy≤1∧bval 4294967296 z+4294967296^i*cy=bval 4294967296 ((lim a).take i)+bval 4294967296 ((lim b).take i)∧(∀ k,i≤k→z.getD k 0=0)) _ ⟨0,List.replicate (((max (lim a).length (lim b).length):Nat)+1:Nat) 0,0,h3,rfl,rfl,hs.to _ _,Nat.zero_le _,hl4,Ld.rep _,oM,(by rw[bval_rep];simp[bval]),fun k _=>getD_rep⟩ ?_);rintro _ _ w5 ⟨i,z,cy,h6,hm7,rfl,hs,hi,hll,hW,hcy,inv,hz⟩;have hai:=(Ld.lim a).get i;have hbi:=(Ld.lim b).get i;refine cQ (cSL (lL hs [.m 17 8,.m 18 5] ?_));cases hb8:(decide ((i:Int)≤(((max (lim a).length (lim b).length):Nat):Int)))
 ·
  have phb8:=oF hb8;refine lB 19 hb8 (lN (cIF (CG.exit ?_)))
  show CG _ _ _ _ _ _ _ _
  refine cSL (lL hs [.m 38 6] ?_);have hin:i=(max (lim a).length (lim b).length)+1:=by omega
  rw[List.take_of_length_le (show (lim a).length≤i by omega),List.take_of_length_le (show (lim b).length≤i by omega),bval_lim,bval_lim,hin,←hll] at inv
  have hE:bval 4294967296 z=a+b:=put_end inv (by rw[hll];exact Nat.lt_of_lt_of_le (lim_lt_pow _) (Nat.pow_le_pow_right kD (lim_len_max oM oM)));obtain ⟨h9,hs,sg10,lo11,bc12⟩:=hs.pub 0;replace hs:=(hs.to [] []).aS (SlO.of_flat (sz:=1) (f:=u32c) (d:=0) (b:=b1) (o:=0) (l:=z) (fun _=>rfl) sg10);refine lC 39 hs (rTrim (sB b1) (((max (lim a).length (lim b).length):Nat)+1:Nat) z (((max (lim a).length (lim b).length):Nat)+1:Nat) hll oM oM _ _ hs.g hs.f.1) ?_;rintro _ _ _ hs rfl;exact lL hs [.m 4 39] (lN (kX (hs.ret [] (qS (sB b1) (tl z (((max (lim a).length (lim b).length):Nat)+1:Nat)) (((max (lim a).length (lim b).length):Nat)+1:Nat)) (RN.trim hW hE hll (nR _) hs.f.1))))
 have phb8:=oT hb8;refine lB 19 hb8 (lN (cIT (cK (cQ (kZ (cSL (lL hs [.m 22 7,.m 23 0,.m 24 8] (lC 25 hs (rAt A c (lim a) ((lim a).length) rfl i oM (Ld.lim _) _ _ hs.g hs.f.2.1) ?_))))))));rintro _ _ _ hs rfl;refine lV 26 (mV (cy+((lim a).getD i 0))) ?_ (hr:=rU (((cy:Int)+(((lim a).getD i 0:Nat):Int))) kR (fAU64 cy ((lim a).getD i 0) oM));refine lL hs [.m 27 1,.m 28 8] (lC 29 hs (rAt D d (lim b) ((lim b).length) rfl i oM (Ld.lim _) _ _ hs.g hs.f.1) ?_);rintro _ _ zb hs rfl;refine lV 30 (mV ((cy+((lim a).getD i 0):Nat)+((lim b).getD i 0))) ?_ (hr:=rU ((((cy+((lim a).getD i 0):Nat):Int)+(((lim b).getD i 0:Nat):Int))) kR (fAU64 (cy+((lim a).getD i 0):Nat) ((lim b).getD i 0) oM));refine lL hs [.m 7 30] (lNS (lL hs [.m 31 6,.m 32 8,.m 33 7] (lV 34 (mW (((cy+((lim a).getD i 0):Nat)+((lim b).getD i 0):Nat)%4294967296)) ?_ (hr:=rT ((((cy+((lim a).getD i 0):Nat)+((lim b).getD i 0):Nat):Int)) kR (wrU32 _)))));refine lX 35 (sB b1) (((max (lim a).length (lim b).length):Nat)+1:Nat) (((max (lim a).length (lim b).length):Nat)+1:Nat) 1 (i:Nat) i rfl (lW 0 z u32c 1 i (((cy+((lim a).getD i 0):Nat)+((lim b).getD i 0):Nat)%4294967296:Nat) hs oM (fun _ hs=>?_));have za:((z).set i (((cy+((lim a).getD i 0):Nat)+((lim b).getD i 0):Nat)%4294967296:Nat)).length=(((max (lim a).length (lim b).length):Nat)+1:Nat):=by rw[List.length_set];exact hll
 replace hs:=hs.to [⟨b1,151,((z).set i (((cy+((lim a).getD i 0):Nat)+((lim b).getD i 0):Nat)%4294967296:Nat)).flatMap u32c⟩] [];refine lN (kQ (lL hs [.m 36 7] (lV 37 (mV (((cy+((lim a).getD i 0):Nat)+((lim b).getD i 0):Nat)/4294967296)) ?_ (hr:=rint (n:=Int.fdiv (((cy+((lim a).getD i 0):Nat)+((lim b).getD i 0):Nat):Int) 4294967296) kR (fdivNat _ 4294967296)))));refine lL hs [.m 7 37] (lN (kQ (lL hs [.m 20 8] (lIn 21 ((i:Nat)+1) (i+1) ?_))));refine lL hs [.m 8 21] (lD ?_);intro a_ ka;refine ⟨_,_,?_,⟨i+1,(z).set i (((cy+((lim a).getD i 0):Nat)+((lim b).getD i 0):Nat)%4294967296:Nat),(((cy+((lim a).getD i 0):Nat)+((lim b).getD i 0):Nat)/4294967296:Nat),zb,rfl,rfl,hs.to _ _,oM,za,(hW.set _ oM),oM,(by rw[put_step (t:=(lim a).getD i 0+(lim b).getD i 0) oM (hz i (nR _)) inv oM,bval_take_next,bval_take_next,Nat.mul_add];omega),(zero_put oM hz)⟩,ka.to _ kR⟩
 omega
theorem rNatSub (a:Nat)(A:Option Addr)(c:Nat)(hc:(lim a).length≤c)(b:Nat)(D:Option Addr)(d:Nat)(hd:(lim b).length≤d)(hLa:(lim a).length≤4000000000)(hLb:(lim b).length≤4000000000)(hba:b≤a)(w:World)(h:Hp)(g:G w h)(hA:S3 A (lim a) h)(hD:S3 D (lim b) h):CR 161 #[.slice A ((lim a).length) c,.slice D ((lim b).length) d] w h (fun v h1=>RN h1 v (a-b)):=by
 have hs:=(((sS g).aS hA).aS hD);have hlm:=lim_len_mono hba;refine go Tryz.func161 [(0,qS A ((lim a).length) c),(1,qS D ((lim b).length) d)] rfl (cSL (lL hs [.v 4 (sZ)] (lNS (lL hs [.m 9 0,.v 10 (nV ((lim a).length))] (lK 11 151 ((lim a).length) 1 4 (uW 0) u32c 0 hs (fun b1 w2 h3 hs=>?_))))));have hl4:(List.replicate ((lim a).length) 0).length=((lim a).length):=by simp
 refine lL hs [.m 5 11] (lNS (lL hs [.v 6 (uV 0)] (lN (cQ (cSL (lL hs [.v 7 (iV 0)] (lN (kZ ?_))))))));refine cTo _ (CG.loop (fun μ_ Γ w_=>∃ (i:Nat) (z:List Nat) (br:Nat) (h_:Hp),μ_=(lim a).length-i∧Γ=[(0,qS A ((lim a).length) c),(1,qS D ((lim b).length) d),(4,sZ),(5,qS (sB b1) ((lim a).length) ((lim a).length)),(7,nV i),(6,mV br)]∧SS w h w_ h_ [⟨b1,151,(z).flatMap u32c⟩] [] [S3 D (lim b),S3 A (lim a)]∧i≤(lim a).length∧z.length=(lim a).length∧Ld z∧br≤1∧bval 4294967296 z+bval 4294967296 ((lim b).take i)=bval 4294967296 ((lim a).take i)+4294967296^i*br∧(∀ k,i≤k→z.getD k 0=0)) _ ⟨0,List.replicate ((lim a).length) 0,0,h3,rfl,rfl,hs.to _ _,Nat.zero_le _,hl4,Ld.rep _,oM,(by rw[bval_rep];simp[bval]),fun k _=>getD_rep⟩ ?_);rintro _ _ w5 ⟨i,z,br,h6,hm7,rfl,hs,hi,hll,hW,hbr,inv,hz⟩;have hai:=(Ld.lim a).get i;have hbi:=(Ld.lim b).get i;refine cQ (cSL (lL hs [.m 12 7,.m 13 0,.v 14 (nV ((lim a).length))] ?_));cases hb8:(decide ((i:Int)<(((lim a).length:Nat):Int)))
 ·
  have phb8:=oF hb8;refine lB 15 hb8 (lN (cIF (CG.exit ?_)))
  show CG _ _ _ _ _ _ _ _
  refine cSL (lL hs [.m 36 5] ?_);have hin:i=(lim a).length:=by omega
  rw[List.take_of_length_le (show (lim a).length≤i by omega),List.take_of_length_le (show (lim b).length≤i by omega),bval_lim,bval_lim,hin,←hll] at inv
  have hE:bval 4294967296 z=a-b:=bsub_end hW inv hba;obtain ⟨h9,hs,sg10,lo11,bc12⟩:=hs.pub 0;replace hs:=(hs.to [] []).aS (SlO.of_flat (sz:=1) (f:=u32c) (d:=0) (b:=b1) (o:=0) (l:=z) (fun _=>rfl) sg10);refine lC 37 hs (rTrim (sB b1) ((lim a).length) z ((lim a).length) hll oM oM _ _ hs.g hs.f.1) ?_;rintro _ _ _ hs rfl;exact lL hs [.m 4 37] (lN (kX (hs.ret [] (qS (sB b1) (tl z ((lim a).length)) ((lim a).length)) (RN.trim hW hE hll (nR _) hs.f.1))))
 have phb8:=oT hb8;refine lB 15 hb8 (lN (cIT (cK (cQ (kZ (cQ (cR 11 [] mixed hs al_nil ?_)))))));refine eV 0 18 (qS A ((lim a).length) c) (eV 1 19 (nV i) (eX 2 20 A ((lim a).length) c 1 (i:Nat) i ((hs.f.2.1).ok oM) (eH 3 21 (mW ((lim a).getD i 0)) hs ((hs.f.2.1).el i oM) (eV 4 22 (mV ((lim a).getD i 0)) ?_ (hv:=fun _=>rU ((((lim a).getD i 0:Nat):Int)) kR (fitU64 oM oM))))));refine eV 5 23 (qS D ((lim b).length) d) (eV 6 24 (nV i) (eV 9 27 (mV br) (eC 7 25 hs (fun _ _ hs=>rAt D d (lim b) ((lim b).length) rfl i oM (Ld.lim _) _ _ hs.g hs.f.1) ?_)));rintro _ _ _ _ _ hs rfl;refine eV 8 26 (mV ((((lim a).getD i 0)+(18446744073709551616-((lim b).getD i 0)))%18446744073709551616)) ?_ (hv:=fun _=>rU (((((lim a).getD i 0:Nat):Int)-(((lim b).getD i 0:Nat):Int))) kR (wSU64 ((lim a).getD i 0) ((lim b).getD i 0) oM));refine eV 10 28 (mV ((((((lim a).getD i 0)+(18446744073709551616-((lim b).getD i 0)))%18446744073709551616:Nat)+(18446744073709551616-br))%18446744073709551616)) ?_ (hv:=fun _=>rU (((((((lim a).getD i 0)+(18446744073709551616-((lim b).getD i 0)))%18446744073709551616:Nat):Int)-(br:Int))) kR (wSU64 ((((lim a).getD i 0)+(18446744073709551616-((lim b).getD i 0)))%18446744073709551616:Nat) br oM));refine eD0 hs (fun _ zb hs=>tV 11 8 (mV ((((((lim a).getD i 0)+(18446744073709551616-((lim b).getD i 0)))%18446744073709551616:Nat)+(18446744073709551616-br))%18446744073709551616)) (tNS ?_));obtain ⟨t,ht⟩:∃ t,t=((((((lim a).getD i 0)+(18446744073709551616-((lim b).getD i 0)))%18446744073709551616:Nat)+(18446744073709551616-br))%18446744073709551616:Nat):=⟨_,rfl⟩;obtain ⟨hS1,hS2⟩:=sub32 hai hbi hbr ht;rw[ht] at hS1 hS2
 refine lL hs [.m 29 5,.m 30 7,.m 31 8] (lV 32 (mW (((((((lim a).getD i 0)+(18446744073709551616-((lim b).getD i 0)))%18446744073709551616:Nat)+(18446744073709551616-br))%18446744073709551616:Nat)%4294967296)) ?_ (hr:=rT ((((((((lim a).getD i 0)+(18446744073709551616-((lim b).getD i 0)))%18446744073709551616:Nat)+(18446744073709551616-br))%18446744073709551616:Nat):Int)) kR (wrU32 _)));refine lX 33 (sB b1) ((lim a).length) ((lim a).length) 1 (i:Nat) i rfl (lW 0 z u32c 1 i (((((((lim a).getD i 0)+(18446744073709551616-((lim b).getD i 0)))%18446744073709551616:Nat)+(18446744073709551616-br))%18446744073709551616:Nat)%4294967296:Nat) hs oM (fun _ hs=>?_));have za:((z).set i (((((((lim a).getD i 0)+(18446744073709551616-((lim b).getD i 0)))%18446744073709551616:Nat)+(18446744073709551616-br))%18446744073709551616:Nat)%4294967296:Nat)).length=((lim a).length):=by rw[List.length_set];exact hll
 replace hs:=hs.to [⟨b1,151,((z).set i (((((((lim a).getD i 0)+(18446744073709551616-((lim b).getD i 0)))%18446744073709551616:Nat)+(18446744073709551616-br))%18446744073709551616:Nat)%4294967296:Nat)).flatMap u32c⟩] [];refine lN (kQ (lL hs [.m 34 8] (lV 35 (mV (((((((lim a).getD i 0)+(18446744073709551616-((lim b).getD i 0)))%18446744073709551616:Nat)+(18446744073709551616-br))%18446744073709551616:Nat)/9223372036854775808)) ?_ (hr:=rint (n:=Int.fdiv (((((((lim a).getD i 0)+(18446744073709551616-((lim b).getD i 0)))%18446744073709551616:Nat)+(18446744073709551616-br))%18446744073709551616:Nat):Int) 9223372036854775808) kR (fdivNat _ 9223372036854775808)))));refine lL hs [.m 6 35] (lN (kQ (lL hs [.m 16 7] (lIn 17 ((i:Nat)+1) (i+1) ?_))));refine lL hs [.m 7 17] (lD ?_);intro a_ ka;refine ⟨_,_,?_,⟨i+1,(z).set i (((((((lim a).getD i 0)+(18446744073709551616-((lim b).getD i 0)))%18446744073709551616:Nat)+(18446744073709551616-br))%18446744073709551616:Nat)%4294967296:Nat),(((((((lim a).getD i 0)+(18446744073709551616-((lim b).getD i 0)))%18446744073709551616:Nat)+(18446744073709551616-br))%18446744073709551616:Nat)/9223372036854775808:Nat),zb,rfl,rfl,hs.to _ _,oM,za,(hW.set _ oM),hS2,(sub_put oM (hz i (nR _)) inv hS1),(zero_put oM hz)⟩,ka.to _ kR⟩
 omega
theorem mulL32 {x y:Nat}(hx:x<4294967296)(hy:y<4294967296):x*y≤18446744065119617025:=Nat.mul_le_mul (show x≤4294967295 by omega) (show y≤4294967295 by omega)
theorem quo_remL {a b q r:Nat}(h:a=b*q+r)(hr:r<b):q=a/b∧r=a%b:=by
  subst h;rw[Nat.mul_add_div oM,Nat.div_eq_of_lt hr,Nat.mul_add_mod,Nat.mod_eq_of_lt hr];simp
theorem zero_setL {l:List Nat}{k j x:Nat}(hk:k<l.length)(h:∀ i,j≤i→l.getD i 0=0)(hj:k<j):∀ i,j≤i→(l.set k x).getD i 0=0:=fun i hi=>by rw[getD_set' hk,if_neg oM];exact h i hi
theorem rNatMul (a:Nat)(A:Option Addr)(c:Nat)(hc:(lim a).length≤c)(b:Nat)(D:Option Addr)(d:Nat)(hd:(lim b).length≤d)(hLa:(lim a).length≤4000000000)(hLb:(lim b).length≤4000000000)(w:World)(h:Hp)(g:G w h)(hA:S3 A (lim a) h)(hD:S3 D (lim b) h):CR 144 #[.slice A ((lim a).length) c,.slice D ((lim b).length) d] w h (fun v h1=>RN h1 v (a*b)):=by
 have hs:=(((sS g).aS hA).aS hD);refine go Tryz.func144 [(0,qS A ((lim a).length) c),(1,qS D ((lim b).length) d)] rfl (cSL (lL hs [.v 4 (sZ)] (lNS (lL hs [.m 9 0,.v 10 (nV ((lim a).length)),.m 11 1,.v 12 (nV ((lim b).length))] (lIn 13 (((lim a).length:Nat)+((lim b).length:Nat)) (((lim a).length)+((lim b).length)) ?_)))));refine lK 14 151 (((lim a).length)+((lim b).length):Nat) 1 4 (uW 0) u32c 0 hs (fun b1 w2 h3 hs=>?_);have hl4:(List.replicate (((lim a).length)+((lim b).length):Nat) 0).length=(((lim a).length)+((lim b).length):Nat):=by simp
 refine lL hs [.m 5 14] (lN (cQ (cSL (lL hs [.v 6 (iV 0)] (lN (kZ ?_))))));refine cTo _ (CG.loop (fun μ_ Γ w_=>∃ (i:Nat) (l:List Nat) (h_:Hp),μ_=(lim a).length-i∧Γ=[(0,qS A ((lim a).length) c),(1,qS D ((lim b).length) d),(4,sZ),(5,qS (sB b1) (((lim a).length)+((lim b).length):Nat) (((lim a).length)+((lim b).length):Nat)),(6,nV i)]∧SS w h w_ h_ [⟨b1,151,(l).flatMap u32c⟩] [] [S3 D (lim b),S3 A (lim a)]∧i≤(lim a).length∧l.length=(lim a).length+(lim b).length∧Ld l∧bval 4294967296 l=bval 4294967296 ((lim a).take i)*b∧(∀ k,i+(lim b).length≤k→l.getD k 0=0)) _ ⟨0,List.replicate (((lim a).length)+((lim b).length):Nat) 0,h3,rfl,rfl,hs.to _ _,Nat.zero_le _,hl4,Ld.rep _,(by rw[bval_rep];simp[bval]),fun k _=>getD_rep⟩ ?_);rintro _ _ w5 ⟨i,l,h6,hm7,rfl,hs,hi,hll,hW,hv,hz⟩;have hai:=(Ld.lim a).get i;refine cQ (cSL (lL hs [.m 15 6,.m 16 0,.v 17 (nV ((lim a).length))] ?_));cases hb8:(decide ((i:Int)<(((lim a).length:Nat):Int)))
 ·
  have phb8:=oF hb8;refine lB 18 hb8 (lN (cIF (CG.exit ?_)))
  show CG _ _ _ _ _ _ _ _
  refine cSL (lL hs [.m 65 5] ?_);have hix:i=(lim a).length:=by omega
  rw[hix,List.take_length,bval_lim] at hv
  have hE:bval 4294967296 l=a*b:=hv;obtain ⟨h9,hs,sg10,lo11,bc12⟩:=hs.pub 0;replace hs:=(hs.to [] []).aS (SlO.of_flat (sz:=1) (f:=u32c) (d:=0) (b:=b1) (o:=0) (l:=l) (fun _=>rfl) sg10);refine lC 66 hs (rTrim (sB b1) (((lim a).length)+((lim b).length):Nat) l (((lim a).length)+((lim b).length):Nat) hll oM oM _ _ hs.g hs.f.1) ?_;rintro _ _ _ hs rfl;exact lL hs [.m 4 66] (lN (kX (hs.ret [] (qS (sB b1) (tl l (((lim a).length)+((lim b).length):Nat)) (((lim a).length)+((lim b).length):Nat)) (RN.trim hW hE hll (nR _) hs.f.1))))
 have phb8:=oT hb8;refine lB 18 hb8 (lN (cIT (cK (cQ (kZ (cSL (lL hs [.v 7 (uV 0)] (lN (cQ (cSL (lL hs [.v 8 (iV 0)] (lN (kZ ?_)))))))))))));refine cTo _ (CG.loop (fun μ_ Γ w_=>∃ (j:Nat) (l2:List Nat) (cy:Nat) (h_:Hp),μ_=(lim b).length-j∧Γ=[(0,qS A ((lim a).length) c),(1,qS D ((lim b).length) d),(4,sZ),(5,qS (sB b1) (((lim a).length)+((lim b).length):Nat) (((lim a).length)+((lim b).length):Nat)),(6,nV i),(8,nV j),(7,mV cy)]∧SS w h w_ h_ [⟨b1,151,(l2).flatMap u32c⟩] [] [S3 D (lim b),S3 A (lim a)]∧j≤(lim b).length∧l2.length=(lim a).length+(lim b).length∧Ld l2∧cy<4294967296∧bval 4294967296 l2+4294967296^(i+j)*cy=bval 4294967296 l+4294967296^i*((lim a).getD i 0*bval 4294967296 ((lim b).take j))∧(∀ k,i+(lim b).length≤k→l2.getD k 0=0)) _ ⟨0,l,0,h6,rfl,rfl,hs.to _ _,Nat.zero_le _,hll,hW,by omega,(by simp[bval]),hz⟩ ?_);rintro _ _ _ ⟨j,l2,cy,ze,hm18,rfl,hs,hj,hll2,hW2,hcy,inv,hz2⟩;have hbj:=(Ld.lim b).get j;have hlk:=hW2.get (i+j);have hxy:=mulL32 hai hbj;refine cQ (cSL (lL hs [.m 21 8,.m 22 1,.v 23 (nV ((lim b).length))] ?_));cases za:(decide ((j:Int)<(((lim b).length:Nat):Int)))
 ·
  have zb:=oF za;refine lB 24 za (lN (cIF (CG.exit ?_)))
  show CG _ _ _ _ _ _ _ _
  refine kQ (lL hs [.m 57 5,.m 58 6,.m 59 1,.v 60 (nV ((lim b).length))] (lIn 61 ((i:Nat)+((lim b).length:Nat)) (i+((lim b).length)) ?_));refine lL hs [.m 62 7] (lV 63 (mW (cy%4294967296)) ?_ (hr:=rT ((cy:Int)) kR (wrU32 _)));refine lX 64 (sB b1) (((lim a).length)+((lim b).length):Nat) (((lim a).length)+((lim b).length):Nat) 1 (i+((lim b).length):Nat) (i+((lim b).length):Nat) rfl (lW 0 l2 u32c 1 (i+((lim b).length):Nat) (cy%4294967296) hs oM (fun _ hs=>?_));have zc:((l2).set (i+((lim b).length):Nat) (cy%4294967296)).length=(((lim a).length)+((lim b).length):Nat):=by rw[List.length_set];exact hll2
  replace hs:=hs.to [⟨b1,151,((l2).set (i+((lim b).length):Nat) (cy%4294967296)).flatMap u32c⟩] [];refine lN (kQ (lL hs [.m 19 6] (lIn 20 ((i:Nat)+1) (i+1) ?_)));refine lL hs [.m 6 20] (lD ?_);intro a_ ka;refine ⟨_,_,?_,⟨i+1,(l2).set (i+((lim b).length):Nat) (cy%4294967296),ze,rfl,rfl,hs.to _ _,oM,zc,(hW2.set _ oM),(by have hjy:j=(lim b).length:=oM;rw[hjy] at inv;have hm_:=mul_end oM inv (hz2 _ oM);rw[bval_lim] at hm_;rw[show cy%4294967296=cy by omega];exact hm_.trans (mul_row hv)),(zero_setL oM (fun k hk=>hz2 k oM) oM)⟩,ka.to _ kR⟩
  omega
 have zb:=oT za;refine lB 24 za (lN (cIT (cK (cQ (kZ (cQ (cR 21 [] mixed hs al_nil ?_)))))));refine eV 0 27 (mV cy) (eV 1 28 (qS (sB b1) (((lim a).length)+((lim b).length):Nat) (((lim a).length)+((lim b).length):Nat)) (eV 2 29 (nV i) (eV 3 30 (nV j) (eIn 4 31 ((i:Nat)+(j:Nat)) (i+j) (eX 5 32 (sB b1) (((lim a).length)+((lim b).length):Nat) (((lim a).length)+((lim b).length):Nat) 1 (i+j:Nat) (i+j) rfl (eQ 6 33 0 l2 u32c 1 0 (i+j) (mW ((l2).getD (i+j) 0)) hs oM (eV 7 34 (mV ((l2).getD (i+j) 0)) ?_ (hv:=fun _=>rU ((((l2).getD (i+j) 0:Nat):Int)) kR (fitU64 oM oM)))))))));refine eV 8 35 (mV (cy+((l2).getD (i+j) 0))) ?_ (hv:=fun _=>rU (((cy:Int)+(((l2).getD (i+j) 0:Nat):Int))) kR (fAU64 cy ((l2).getD (i+j) 0) oM));refine eV 9 36 (qS A ((lim a).length) c) (eV 10 37 (nV i) (eX 11 38 A ((lim a).length) c 1 (i:Nat) i ((hs.f.2.1).ok oM) (eH 12 39 (mW ((lim a).getD i 0)) hs ((hs.f.2.1).el i oM) (eV 13 40 (mV ((lim a).getD i 0)) ?_ (hv:=fun _=>rU ((((lim a).getD i 0:Nat):Int)) kR (fitU64 oM oM))))));refine eV 14 41 (qS D ((lim b).length) d) (eV 15 42 (nV j) (eX 16 43 D ((lim b).length) d 1 (j:Nat) j ((hs.f.1).ok oM) (eH 17 44 (mW ((lim b).getD j 0)) hs ((hs.f.1).el j oM) (eV 18 45 (mV ((lim b).getD j 0)) ?_ (hv:=fun _=>rU ((((lim b).getD j 0:Nat):Int)) kR (fitU64 oM oM))))));refine eV 19 46 (mV (((lim a).getD i 0)*((lim b).getD j 0))) ?_ (hv:=fun _=>rU (((((lim a).getD i 0:Nat):Int)*(((lim b).getD j 0:Nat):Int))) kR (fMU64 ((lim a).getD i 0) ((lim b).getD j 0) oM));refine eV 20 47 (mV ((cy+((l2).getD (i+j) 0):Nat)+(((lim a).getD i 0)*((lim b).getD j 0):Nat))) ?_ (hv:=fun _=>rU ((((cy+((l2).getD (i+j) 0):Nat):Int)+((((lim a).getD i 0)*((lim b).getD j 0):Nat):Int))) kR (fAU64 (cy+((l2).getD (i+j) 0):Nat) (((lim a).getD i 0)*((lim b).getD j 0):Nat) oM));refine eD0 hs (fun _ zf hs=>tV 21 7 (mV ((cy+((l2).getD (i+j) 0):Nat)+(((lim a).getD i 0)*((lim b).getD j 0):Nat))) (tNS (lL hs [.m 48 5,.m 49 6,.m 50 8] (lIn 51 ((i:Nat)+(j:Nat)) (i+j) ?_))));refine lL hs [.m 52 7] (lV 53 (mW (((cy+((l2).getD (i+j) 0):Nat)+(((lim a).getD i 0)*((lim b).getD j 0):Nat):Nat)%4294967296)) ?_ (hr:=rT ((((cy+((l2).getD (i+j) 0):Nat)+(((lim a).getD i 0)*((lim b).getD j 0):Nat):Nat):Int)) kR (wrU32 _)));refine lX 54 (sB b1) (((lim a).length)+((lim b).length):Nat) (((lim a).length)+((lim b).length):Nat) 1 (i+j:Nat) (i+j) rfl (lW 0 l2 u32c 1 (i+j) (((cy+((l2).getD (i+j) 0):Nat)+(((lim a).getD i 0)*((lim b).getD j 0):Nat):Nat)%4294967296:Nat) hs oM (fun _ hs=>?_));have zd:((l2).set (i+j) (((cy+((l2).getD (i+j) 0):Nat)+(((lim a).getD i 0)*((lim b).getD j 0):Nat):Nat)%4294967296:Nat)).length=(((lim a).length)+((lim b).length):Nat):=by rw[List.length_set];exact hll2
 replace hs:=hs.to [⟨b1,151,((l2).set (i+j) (((cy+((l2).getD (i+j) 0):Nat)+(((lim a).getD i 0)*((lim b).getD j 0):Nat):Nat)%4294967296:Nat)).flatMap u32c⟩] [];refine lN (kQ (lL hs [.m 55 7] (lV 56 (mV (((cy+((l2).getD (i+j) 0):Nat)+(((lim a).getD i 0)*((lim b).getD j 0):Nat):Nat)/4294967296)) ?_ (hr:=rint (n:=Int.fdiv (((cy+((l2).getD (i+j) 0):Nat)+(((lim a).getD i 0)*((lim b).getD j 0):Nat):Nat):Int) 4294967296) kR (fdivNat _ 4294967296)))));refine lL hs [.m 7 56] (lN (cTo [(0,qS A ((lim a).length) c),(1,qS D ((lim b).length) d),(4,sZ),(5,qS (sB b1) (((lim a).length)+((lim b).length):Nat) (((lim a).length)+((lim b).length):Nat)),(6,nV i),(8,nV j),(7,mV (((cy+((l2).getD (i+j) 0):Nat)+(((lim a).getD i 0)*((lim b).getD j 0):Nat):Nat)/4294967296))] ?_));refine kQ (lL hs [.m 25 8] (lIn 26 ((j:Nat)+1) (j+1) ?_));refine lL hs [.m 8 26] (lD ?_);intro a_ ka;refine ⟨_,_,?_,⟨j+1,(l2).set (i+j) (((cy+((l2).getD (i+j) 0):Nat)+(((lim a).getD i 0)*((lim b).getD j 0):Nat):Nat)%4294967296:Nat),(((cy+((l2).getD (i+j) 0):Nat)+(((lim a).getD i 0)*((lim b).getD j 0):Nat):Nat)/4294967296:Nat),zf,rfl,rfl,hs.to _ _,oM,zd,(hW2.set _ oM),oM,(mul_step oM inv oM),(zero_setL oM hz2 oM)⟩,ka.to _ kR⟩
 omega
theorem rOne (a:Nat)(A:Option Addr)(c:Nat)(hc:(lim a).length≤c)(hLa:(lim a).length≤4000000000)(d:Nat)(hd0:0<d)(hd:d<4294967296)(w:World)(h:Hp)(g:G w h)(hA:S3 A (lim a) h):CR 119 #[.slice A ((lim a).length) c,mW d] w h (fun v h1=>∃ v1,∃ r:Nat,v=.tuple #[v1,mW r]∧RN h1 v1 (a/d)∧r=a%d):=by
 have hs:=((sS g).aS hA);refine go Tryz.func119 [(0,qS A ((lim a).length) c),(1,mW d)] rfl (cSL (lL hs [.v 4 (sZ),.v 5 (uW 0)] (lNS (lL hs [.m 9 0,.v 10 (nV ((lim a).length))] (lK 11 151 ((lim a).length) 1 4 (uW 0) u32c 0 hs (fun b1 w2 h3 hs=>?_))))));have hl4:(List.replicate ((lim a).length) 0).length=((lim a).length):=by simp
 refine lL hs [.m 6 11] (lNS (lL hs [.v 7 (uV 0)] (lN (cQ (cSL (lL hs [.m 12 0,.v 13 (nV ((lim a).length))] (lV 14 (iV ((((lim a).length:Nat):Int)-1)) ?_ (hr:=rS ((((lim a).length:Nat)-1)) kR ((wr64 oM oM).trans oM)))))))));refine lL hs [.m 8 14] (lN (kZ ?_));refine cTo _ (CG.loop (fun μ_ Γ w_=>∃ (m:Nat) (z:List Nat) (r:Nat) (h_:Hp),μ_=m∧Γ=[(0,qS A ((lim a).length) c),(1,mW d),(4,sZ),(5,uW 0),(6,qS (sB b1) ((lim a).length) ((lim a).length)),(8,iV ((m:Int)-1)),(7,mV r)]∧SS w h w_ h_ [⟨b1,151,(z).flatMap u32c⟩] [] [S3 A (lim a)]∧m≤(lim a).length∧z.length=(lim a).length∧Ld z∧a=d*bval 4294967296 z+(4294967296^m*r+bval 4294967296 ((lim a).take m))∧r<d∧(∀ k,k<m→z.getD k 0=0)) _ ⟨(lim a).length,List.replicate ((lim a).length) 0,0,h3,rfl,rfl,hs.to _ _,nR _,hl4,Ld.rep _,(by rw[bval_rep,List.take_length,bval_lim];simp),hd0,fun k _=>getD_rep⟩ ?_);rintro _ _ w5 ⟨m,z,r,h6,hm7,rfl,hs,hm,hzl,hZ,inv,hr,hz⟩;have hai:=(Ld.lim a).get (m-1);refine cQ (cSL (lL hs [.m 15 8] ?_));cases hb8:(decide ((0:Int)≤((m:Int)-1:Int)))
 ·
  have phb8:=oF hb8;refine lB 16 hb8 (lN (cIF (CG.exit ?_)))
  show CG _ _ _ _ _ _ _ _
  refine cSL (lL hs [.m 39 6] ?_);have hm0:m=0:=by omega
  rw[hm0,Nat.pow_zero,Nat.one_mul,List.take_zero] at inv
  have inv_:a=d*bval 4294967296 z+r:=by simpa [bval] using inv
  obtain ⟨hE_,hE2⟩:=quo_remL inv_ hr;have hE:bval 4294967296 z=a/d:=hE_;obtain ⟨h9,hs,sg10,lo11,bc12⟩:=hs.pub 0;replace hs:=(hs.to [] []).aS (SlO.of_flat (sz:=1) (f:=u32c) (d:=0) (b:=b1) (o:=0) (l:=z) (fun _=>rfl) sg10);refine lC 40 hs (rTrim (sB b1) ((lim a).length) z ((lim a).length) hzl oM oM _ _ hs.g hs.f.1) ?_;rintro _ _ _ hs rfl;refine lL hs [.m 41 7] (lV 42 (mW r) ?_ (hr:=rint (rint (n:=IntKind.wrap .u32 (r:Int)) kR (wrU32 _)) oM));exact lL hs [.m 4 40,.m 5 42] (lN (kX (hs.ret [] (.tuple #[qS (sB b1) (tl z ((lim a).length)) ((lim a).length),mW r]) (⟨_,r,rfl,RN.trim hZ hE hzl (nR _) hs.f.1,hE2⟩))))
 have phb8:=oT hb8;refine lB 16 hb8 (lN (cIT (cK (cQ (kZ (cSL (lL hs [.m 19 7] (lV 20 (mV (r*4294967296%18446744073709551616)) ?_ (hr:=rU (((r:Int)*4294967296)) kR (wMU64 r 4294967296))))))))));refine lL hs [.m 21 0,.m 22 8] (lX 23 A ((lim a).length) c 1 ((m:Int)-1) (m-1) ((hs.f.1).ok oM) ?_);refine lH 24 (mW ((lim a).getD (m-1) 0)) hs ((hs.f.1).el (m-1) oM) (lV 25 (mV ((lim a).getD (m-1) 0)) ?_ (hr:=rU ((((lim a).getD (m-1) 0:Nat):Int)) kR (fitU64 oM oM)));refine lV 26 (mV (r*4294967296+(lim a).getD (m-1) 0)) ?_ (hr:=rint (opOr (t:=35) (u:=35) (x:=.tmp 20) (y:=.tmp 25) (a:=(r*4294967296%18446744073709551616)) (b:=((lim a).getD (m-1) 0)) kR kR kR oM oM _) (by rw[Nat.mod_eq_of_lt (show r*4294967296<18446744073709551616 by omega),or_lo2 hai]));refine lL hs [.m 7 26] (lNS (lL hs [.m 27 6,.m 28 8,.m 29 7,.m 30 1] (lV 31 (mV d) ?_ (hr:=rU ((d:Int)) kR (fitU64 oM oM)))));have hqr:=div_rem32 (r:=r) (x:=(lim a).getD (m-1) 0) hd0 hr hai hd;refine lV 32 (mV ((r*4294967296+(lim a).getD (m-1) 0)/d)) ?_ (hr:=rint (opQuo (t:=35) (u:=35) (x:=.tmp 29) (y:=.tmp 31) (k:=.u64) (a:=((r*4294967296+(lim a).getD (m-1) 0:Nat):Int)) (b:=(d:Int)) kR kR kR oM _) (quoU64 (r*4294967296+(lim a).getD (m-1) 0) d oM));refine lV 33 (mW (((r*4294967296+(lim a).getD (m-1) 0)/d:Nat)%4294967296)) ?_ (hr:=rT ((((r*4294967296+(lim a).getD (m-1) 0)/d:Nat):Int)) kR (wrU32 _));refine lX 34 (sB b1) ((lim a).length) ((lim a).length) 1 ((m:Int)-1) (m-1) rfl (lW 0 z u32c 1 (m-1) (((r*4294967296+(lim a).getD (m-1) 0)/d:Nat)%4294967296:Nat) hs oM (fun _ hs=>?_));have za:((z).set (m-1) (((r*4294967296+(lim a).getD (m-1) 0)/d:Nat)%4294967296:Nat)).length=((lim a).length):=by rw[List.length_set];exact hzl
 replace hs:=hs.to [⟨b1,151,((z).set (m-1) (((r*4294967296+(lim a).getD (m-1) 0)/d:Nat)%4294967296:Nat)).flatMap u32c⟩] [];refine lN (kQ (lL hs [.m 35 7,.m 36 1] (lV 37 (mV d) ?_ (hr:=rU ((d:Int)) kR (fitU64 oM oM)))));refine lV 38 (mV ((r*4294967296+(lim a).getD (m-1) 0)%d)) ?_ (hr:=rint (opRem (t:=35) (u:=35) (x:=.tmp 35) (y:=.tmp 37) (k:=.u64) (a:=((r*4294967296+(lim a).getD (m-1) 0:Nat):Int)) (b:=(d:Int)) kR kR kR oM _) (tmodNat (r*4294967296+(lim a).getD (m-1) 0) d));refine lL hs [.m 7 38] (lN (kQ (lL hs [.m 17 8] (lV 18 (iV (((m-1:Nat):Int)-1)) ?_ (hr:=rS ((((m:Int)-1)-1)) kR ((wr64 oM oM).trans oM))))));refine lL hs [.m 8 18] (lD ?_);intro a_ ka;refine ⟨_,_,?_,⟨m-1,(z).set (m-1) (((r*4294967296+(lim a).getD (m-1) 0)/d:Nat)%4294967296:Nat),((r*4294967296+(lim a).getD (m-1) 0)%d:Nat),h6,rfl,rfl,hs.to _ _,oM,za,(hZ.set _ (Nat.mod_lt _ kD)),(by rw[hqr.1];exact one_step oM oM (hz _ oM) inv hqr.2.1),hqr.2.2,(fun k hk=>by rw[getD_set' oM,if_neg oM];exact hz k oM)⟩,ka.to _ kR⟩
 omega
theorem rNatBits (a:Nat)(A:Option Addr)(c:Nat)(hc:(lim a).length≤c)(hLa:(lim a).length≤4000000000)(w:World)(h:Hp)(g:G w h)(hA:S3 A (lim a) h):CV 93 #[.slice A ((lim a).length) c] w h (nV (nb a)):=by
 have hs:=((sS g).aS hA);have hpa:=@lim_pos a;have hgl:=(Ld.lim a).get ((lim a).length-1);refine go Tryz.func93 [(0,qS A ((lim a).length) c)] rfl (cSL (lL hs [.v 2 (iV 0)] (lN (cQ (cSL (lL hs [.m 5 0,.v 6 (nV ((lim a).length))] ?_))))));cases hb1:((((lim a).length:Nat):Int) == (0:Int))
 ·
  have phb1:=neOfBeq hb1;refine lB 7 hb1 (lN (cIF (cK (cSL (lL hs [.m 8 0,.v 9 (nV ((lim a).length))] (lIn 10 (((lim a).length:Nat)-1) (((lim a).length)-1) ?_))))));refine lIn 11 (32*(((lim a).length)-1:Nat)) (32*(((lim a).length)-1:Nat)) (lL hs [.m 3 11] (lN (cQ (cSL (lL hs [.m 12 0,.m 13 0,.v 14 (nV ((lim a).length))] (lI 15 (((lim a).length:Nat)-1) ?_))))));refine lX 16 A ((lim a).length) c 1 (((lim a).length:Nat)-1) (((lim a).length)-1) ((hs.f.1).ok oM) (lH 17 (mW ((lim a).getD (((lim a).length)-1) 0)) hs ((hs.f.1).el (((lim a).length)-1) oM) (lL hs [.m 4 17] (lN (kZ ?_))));refine cTo _ (CG.loop (fun μ_ Γ w_=>∃ (n:Nat) (x:Nat) (h_:Hp),μ_=x∧Γ=[(2,iV 0),(3,nV n),(4,mW x)]∧SS w h w_ h_ [] [] [S3 A (lim a)]∧n+nb x=nb a∧x<4294967296∧nb a≤128000000000) _ ⟨32*((lim a).length-1),(lim a).getD ((lim a).length-1) 0,h,rfl,rfl,hs.to _ _,(nb_lim oM).symm,hgl,(by have:=nb_len a;omega)⟩ ?_);rintro _ _ w2 ⟨n,x,h3,hm4,rfl,hs,hn,hx,hm⟩;refine cQ (cSL (lL hs [.m 18 4] ?_));cases hb5:(decide ((0:Int)<(x:Int)))
  ·
   have phb5:=oF hb5;refine lB 19 hb5 (lN (cIF (CG.exit ?_)))
   show CG _ _ _ _ _ _ _ _
   exact cSL (lL hs [.m 24 3,.m 2 24] (lN (kX (hs.ret [] (nV n) (by obtain rfl:x=0:=oM;rw[nb_zero] at hn;rw[←hn];rfl)))))
  have phb5:=oT hb5;refine lB 19 hb5 (lN (cIT (cK (cQ (kZ (kQ (lL hs [.m 22 3] (lIn 23 ((n:Nat)+1) (n+1) ?_))))))));refine lL hs [.m 3 23] (lN (kQ (lL hs [.m 20 4] (lV 21 (mW (x/2)) ?_ (hr:=rint (n:=Int.fdiv (x:Nat) 2) kR (fdivNat x 2))))));refine lL hs [.m 4 21] (lD ?_);intro a_ ka;refine ⟨_,_,?_,⟨n+1,x/2,h3,rfl,rfl,hs.to _ _,(by have:=nb_half (n:=x) oM;omega),oM,hm⟩,ka.to _ kR⟩
  omega
 have phb1:=eq_of_beq hb1;exact lB 7 hb1 (lN (cIT (cSL (lL hs [.v 2 (iV 0)] (lN (kX (hs.ret [] (iV 0) (by obtain rfl:a=0:=oM;rfl))))))))
def l3 (u2 u1 u0:Nat):Nat:=4294967296*(4294967296*u2+u1)+u0
def l2 (v1 v0:Nat):Nat:=4294967296*v1+v0
structure Hss (u2 u1 u0 v1 v0 g r o:Nat):Prop where
  e:g*v1+(r+4294967296*o)=4294967296*u2+u1
  lt:g+1=4294967296∨l3 u2 u1 u0<(g+1)*l2 v1 v0
  gb:g<4294967296
section
variable {n j G:Nat} {u v:List Nat}
end
structure Gk (u2 u1 u0 v1 v0 g r:Nat):Prop where
  e:g*v1+r=4294967296*u2+u1
  lt:4294967296≤g+1∨l3 u2 u1 u0<(g+1)*l2 v1 v0
theorem rNatDivLt (a:Nat)(A:Option Addr)(c:Nat)(hc:(lim a).length≤c)(b:Nat)(D:Option Addr)(d:Nat)(hd:(lim b).length≤d)(hLa:(lim a).length≤3000000000)(hLb:(lim b).length≤3000000000)(hab:a<b)(w:World)(h:Hp)(g:G w h)(hA:S3 A (lim a) h)(hD:S3 D (lim b) h):CR 88 #[.slice A ((lim a).length) c,.slice D ((lim b).length) d] w h (fun v h1=>∃ v1 v2,v=.tuple #[v1,v2]∧RN h1 v1 (a/b)∧RN h1 v2 (a%b)):=by
 have hs:=(((sS g).aS hA).aS hD);have hcl:=cmpN_lt hab;refine go Tryz.func88 [(0,qS A ((lim a).length) c),(1,qS D ((lim b).length) d)] rfl (cSL (lL hs [.v 4 (sZ),.v 5 (sZ)] (lN (cQ (cSL (lL hs [.m 25 0,.m 26 1] (lC 27 hs (rNatCmp a A c hc b D d hd oM oM _ _ hs.g hs.f.2.1 hs.f.1) ?_)))))));rintro _ w1 h2 hs rfl;have ⟨hb3,phb3⟩:=dT (p:=(cmpN a b:Int)<(0:Int)) oM;exact lB 28 hb3 (lN (cIT (cSL (lL hs [.m 29 0,.v 4 (sZ),.m 5 29] (lN (kX (hs.ret [] (.tuple #[sZ,qS A ((lim a).length) c]) (⟨_,_,rfl,by rw[Nat.div_eq_of_lt hab];exact ⟨none,0,rfl,nR _,SlO.nil⟩,by rw[Nat.mod_eq_of_lt hab];exact ⟨A,c,rfl,hc,hs.f.2.1⟩⟩))))))))
theorem lim_single {b:Nat}(h:(lim b).length=1):b<4294967296∧(lim b).getD 0 0=b∧0<b:=by
  have h1:=lim_lt_pow b;rw[h] at h1
  have h2:0<b:=lim_pos.1 oM;refine ⟨by omega,?_,h2⟩;rw[lim_one h2 oM];rfl
theorem rNatDivOne (a:Nat)(A:Option Addr)(c:Nat)(hc:(lim a).length≤c)(b:Nat)(D:Option Addr)(d:Nat)(hd:(lim b).length≤d)(hLa:(lim a).length≤3000000000)(hLb:(lim b).length≤3000000000)(hab:b≤a)(h1:(lim b).length=1)(w:World)(h:Hp)(g:G w h)(hA:S3 A (lim a) h)(hD:S3 D (lim b) h):CR 88 #[.slice A ((lim a).length) c,.slice D ((lim b).length) d] w h (fun v h1=>∃ v1 v2,v=.tuple #[v1,v2]∧RN h1 v1 (a/b)∧RN h1 v2 (a%b)):=by
 have hs:=(((sS g).aS hA).aS hD);have hcl:=cmpN_ge hab;obtain ⟨hb1,hb2,hb3⟩:=lim_single h1;refine go Tryz.func88 [(0,qS A ((lim a).length) c),(1,qS D ((lim b).length) d)] rfl (cSL (lL hs [.v 4 (sZ),.v 5 (sZ)] (lN (cQ (cSL (lL hs [.m 25 0,.m 26 1] (lC 27 hs (rNatCmp a A c hc b D d hd oM oM _ _ hs.g hs.f.2.1 hs.f.1) ?_)))))));rintro _ w1 h2 hs rfl;have ⟨hb3,phb3⟩:=dF (p:=(cmpN a b:Int)<(0:Int)) oM;refine lB 28 hb3 (lN (cIF (cK (cQ (cSL (lL hs [.m 30 1,.v 31 (nV ((lim b).length))] ?_))))));have hb4:((((lim b).length:Nat):Int) == (1:Int))=true:=beqT oM;have phb4:=eq_of_beq hb4;refine lB 32 hb4 (lN (cIT (cSL (lL hs [.m 34 0,.m 35 1] (lX 36 D ((lim b).length) d 1 0 0 ((hs.f.1).ok oM) ?_)))));refine lH 37 (mW ((lim b).getD 0 0)) hs ((hs.f.1).el 0 oM) (lC 38 hs (rOne a A c hc oM ((lim b).getD 0 0) oM oM _ _ hs.g hs.f.2.1) ?_);rintro _ w5 h6 hs ⟨_,r,rfl,⟨Aq,cq,rfl,hcq,hq⟩,hr_⟩;replace hs:=hs.aS hq;refine lL hs [.m 33 38,.v 39 (qS Aq ((lim (a/((lim b).getD 0 0))).length) cq),.v 40 (mW r),.m 6 39,.m 7 40] (lNS (lL hs [.m 41 6,.m 42 7] ?_));have hrb:=Nat.mod_lt a (show 0<(lim b).getD 0 0 by omega);refine lV 43 (mV r) ?_ (hr:=rU ((r:Int)) kR (fitU64 oM oM));refine lC 44 hs (rNatOf r oM _ _ hs.g) ?_;rintro _ _ _ hs ⟨A7,c8,rfl,hc9,za⟩;replace hs:=hs.aS za;exact lL hs [.m 4 41,.m 5 44] (lN (kX (hs.ret [] (.tuple #[qS Aq ((lim (a/((lim b).getD 0 0))).length) cq,qS A7 ((lim r).length) c8]) (⟨_,_,rfl,by rw[hb2] at *;exact ⟨_,_,rfl,hcq,hs.f.2.1⟩,by rw[←hb2,←hr_];exact ⟨_,_,rfl,hc9,hs.f.1⟩⟩))))
theorem gcd_mod_swapL (x y:Nat):Nat.gcd y (x%y)=Nat.gcd x y:=by rw[Nat.gcd_comm y,←Nat.gcd_rec,Nat.gcd_comm]
theorem rIntMul (x:Int)(A:Option Addr)(c:Nat)(hc:(lim (iabs x)).length≤c)(hLx:(lim (iabs x)).length≤2000000000)(y:Int)(D:Option Addr)(d:Nat)(hd:(lim (iabs y)).length≤d)(hLy:(lim (iabs y)).length≤2000000000)(w:World)(h:Hp)(g:G w h)(hA:S3 A (lim (iabs x)) h)(hD:S3 D (lim (iabs y)) h):CR 116 #[.agg #[.bool (ineg x),.slice A ((lim (iabs x)).length) c],.agg #[.bool (ineg y),.slice D ((lim (iabs y)).length) d]] w h (fun v h1=>RI h1 v (x*y)):=by
 have hs:=(((sS g).aS hA).aS hD);refine go Tryz.func116 [(0,.agg #[.bool (ineg x),qS A ((lim (iabs x)).length) c]),(1,.agg #[.bool (ineg y),qS D ((lim (iabs y)).length) d])] rfl (cSL (lA 2 54 ([.bool (ineg x),qS A ((lim (iabs x)).length) c]) hs (fun b1 w2 h3 hs=>lA 3 54 ([.bool (ineg y),qS D ((lim (iabs y)).length) d]) hs (fun b4 w5 h6 hs=>lA 4 54 ([qF,sZ]) hs (fun b7 w8 h9 hs=>lN (cQ (cR 11 [] mixed hs al_nil ?_)))))));refine eV 0 5 (pB b1) (eO 1 6 [(2,0,1)] (.bool (ineg x)) hs (eV 2 7 (pB b4) (eO 3 8 [(1,0,1)] (.bool (ineg y)) hs (eV 4 9 (.bool ((ineg x) != (ineg y))) (eV 5 10 (qP b1 1) (eO 6 11 [(2,1,1)] (qS A ((lim (iabs x)).length) c) hs (eV 7 12 (qP b4 1) (eO 8 13 [(1,1,1)] (qS D ((lim (iabs y)).length) d) hs (eC 9 14 hs (fun _ _ hs=>rNatMul (iabs x) A c hc (iabs y) D d hd oM oM _ _ hs.g hs.f.2.1 hs.f.1) ?_)))))))));rintro _ _ _ _ _ hs ⟨zg,zi,rfl,zc,zd⟩;replace hs:=hs.aS zd;refine eC 10 15 hs (fun _ _ hs=>rI ((ineg x) != (ineg y)) ((iabs x)*(iabs y)) zg zi zc _ _ hs.g hs.f.1) ?_;rintro _ _ _ _ _ hs ⟨za,zb,rfl,ze,zf⟩;replace hs:=hs.aS zf;exact eD0 hs (fun _ _ hs=>tP 11 0 0 ([.bool (ineg (sgn ((ineg x) != (ineg y)) ((iabs x)*(iabs y)))),qS za ((lim (iabs (sgn ((ineg x) != (ineg y)) ((iabs x)*(iabs y))))).length) zb]) hs (fun _ hs=>tN (kX (hs.ret [(0,0,2)] (.agg #[.bool (ineg (sgn ((ineg x) != (ineg y)) ((iabs x)*(iabs y)))),qS za ((lim (iabs (sgn ((ineg x) != (ineg y)) ((iabs x)*(iabs y))))).length) zb]) (by rw[←mul_sg x y];exact ⟨_,_,rfl,ze,hs.f.1⟩)))))
theorem rIntNegf (x:Int)(A:Option Addr)(c:Nat)(hc:(lim (iabs x)).length≤c)(hLx:(lim (iabs x)).length≤2000000000)(hx:ineg x=false)(w:World)(h:Hp)(g:G w h)(hA:S3 A (lim (iabs x)) h):CR 158 #[.agg #[.bool false,.slice A ((lim (iabs x)).length) c]] w h (fun v h1=>RI h1 v (-x)):=by
 have hs:=((sS g).aS hA);refine go Tryz.func158 [(0,.agg #[qF,qS A ((lim (iabs x)).length) c])] rfl (cSL (lA 1 54 ([qF,qS A ((lim (iabs x)).length) c]) hs (fun b1 w2 h3 hs=>lA 2 54 ([qF,sZ]) hs (fun b4 w5 h6 hs=>lNS (lL hs [.v 3 (pB b1),.o 4 qF 1 0 1,.v 5 qT,.v 6 (qP b1 1),.o 7 (qS A ((lim (iabs x)).length) c) 1 1 1] (lC 8 hs (rI true (iabs x) A c hc _ _ hs.g hs.f.1) ?_))))));rintro _ _ _ hs ⟨A7,c8,rfl,hc9,za⟩;replace hs:=hs.aS za;exact lP 0 0 ([.bool (ineg (sgn true (iabs x))),qS A7 ((lim (iabs (sgn true (iabs x)))).length) c8]) hs (fun _ hs=>lN (kX (hs.ret [(0,0,2)] (.agg #[.bool (ineg (sgn true (iabs x))),qS A7 ((lim (iabs (sgn true (iabs x)))).length) c8]) (by rw[←sgn_not x,hx];exact ⟨_,_,rfl,hc9,hs.f.1⟩))))
theorem rIntNegt (x:Int)(A:Option Addr)(c:Nat)(hc:(lim (iabs x)).length≤c)(hLx:(lim (iabs x)).length≤2000000000)(hx:ineg x=true)(w:World)(h:Hp)(g:G w h)(hA:S3 A (lim (iabs x)) h):CR 158 #[.agg #[.bool true,.slice A ((lim (iabs x)).length) c]] w h (fun v h1=>RI h1 v (-x)):=by
 have hs:=((sS g).aS hA);refine go Tryz.func158 [(0,.agg #[qT,qS A ((lim (iabs x)).length) c])] rfl (cSL (lA 1 54 ([qT,qS A ((lim (iabs x)).length) c]) hs (fun b1 w2 h3 hs=>lA 2 54 ([qF,sZ]) hs (fun b4 w5 h6 hs=>lNS (lL hs [.v 3 (pB b1),.o 4 qT 1 0 1,.v 5 qF,.v 6 (qP b1 1),.o 7 (qS A ((lim (iabs x)).length) c) 1 1 1] (lC 8 hs (rI false (iabs x) A c hc _ _ hs.g hs.f.1) ?_))))));rintro _ _ _ hs ⟨A7,c8,rfl,hc9,za⟩;replace hs:=hs.aS za;exact lP 0 0 ([.bool (ineg (sgn false (iabs x))),qS A7 ((lim (iabs (sgn false (iabs x)))).length) c8]) hs (fun _ hs=>lN (kX (hs.ret [(0,0,2)] (.agg #[.bool (ineg (sgn false (iabs x))),qS A7 ((lim (iabs (sgn false (iabs x)))).length) c8]) (by rw[←sgn_not x,hx];exact ⟨_,_,rfl,hc9,hs.f.1⟩))))
theorem rIntNeg (x:Int)(A:Option Addr)(c:Nat)(hc:(lim (iabs x)).length≤c)(hLx:(lim (iabs x)).length≤2000000000)(w:World)(h:Hp)(g:G w h)(hA:S3 A (lim (iabs x)) h):CR 158 #[.agg #[.bool (ineg x),.slice A (lim (iabs x)).length c]] w h (fun v h1=>RI h1 v (-x)):=by
  rcases hx:ineg x with _|_
  · exact rIntNegf x A c hc hLx hx w h g hA
  · exact rIntNegt x A c hc hLx hx w h g hA
theorem rIntAddff (x:Int)(A:Option Addr)(c:Nat)(hc:(lim (iabs x)).length≤c)(hLx:(lim (iabs x)).length≤2000000000)(y:Int)(D:Option Addr)(d:Nat)(hd:(lim (iabs y)).length≤d)(hLy:(lim (iabs y)).length≤2000000000)(hx:ineg x=false)(hy:ineg y=false)(w:World)(h:Hp)(g:G w h)(hA:S3 A (lim (iabs x)) h)(hD:S3 D (lim (iabs y)) h):CR 157 #[.agg #[.bool false,.slice A ((lim (iabs x)).length) c],.agg #[.bool false,.slice D ((lim (iabs y)).length) d]] w h (fun v h1=>RI h1 v (x+y)):=by
 have hs:=(((sS g).aS hA).aS hD);have hx_:=ineg_false hx;have hy_:=ineg_false hy;refine go Tryz.func157 [(0,.agg #[qF,qS A ((lim (iabs x)).length) c]),(1,.agg #[qF,qS D ((lim (iabs y)).length) d])] rfl (cSL (lA 2 54 ([qF,qS A ((lim (iabs x)).length) c]) hs (fun b1 w2 h3 hs=>lA 3 54 ([qF,qS D ((lim (iabs y)).length) d]) hs (fun b4 w5 h6 hs=>lA 4 54 ([qF,sZ]) hs (fun b7 w8 h9 hs=>lN (cQ (cSL (lL hs [.v 5 (pB b1),.o 6 qF 2 0 1,.v 7 (pB b4),.o 8 qF 1 0 1,.v 9 qT] (lN (cIT (cQ (cR 8 [] mixed hs al_nil ?_))))))))))));refine eV 0 10 (pB b1) (eO 1 11 [(2,0,1)] qF hs (eV 2 12 (qP b1 1) (eO 3 13 [(2,1,1)] (qS A ((lim (iabs x)).length) c) hs (eV 4 14 (qP b4 1) (eO 5 15 [(1,1,1)] (qS D ((lim (iabs y)).length) d) hs (eC 6 16 hs (fun _ _ hs=>rNatAdd (iabs x) A c hc (iabs y) D d hd oM oM _ _ hs.g hs.f.2.1 hs.f.1) ?_))))));rintro _ _ _ _ _ hs ⟨zg,zi,rfl,zc,zd⟩;replace hs:=hs.aS zd;refine eC 7 17 hs (fun _ _ hs=>rI false ((iabs x)+(iabs y)) zg zi zc _ _ hs.g hs.f.1) ?_;rintro _ _ _ _ _ hs ⟨za,zb,rfl,ze,zf⟩;replace hs:=hs.aS zf;exact eD0 hs (fun _ _ hs=>tP 8 0 0 ([.bool (ineg (sgn false ((iabs x)+(iabs y)))),qS za ((lim (iabs (sgn false ((iabs x)+(iabs y))))).length) zb]) hs (fun _ hs=>tN (kX (hs.ret [(0,0,2)] (.agg #[.bool (ineg (sgn false ((iabs x)+(iabs y)))),qS za ((lim (iabs (sgn false ((iabs x)+(iabs y))))).length) zb]) (by rw[show x+y=(sgn false ((iabs x)+(iabs y))) by unfold sgn iabs at *;simp;omega];exact ⟨_,_,rfl,ze,hs.f.1⟩)))))
theorem rIntAddft (x:Int)(A:Option Addr)(c:Nat)(hc:(lim (iabs x)).length≤c)(hLx:(lim (iabs x)).length≤2000000000)(y:Int)(D:Option Addr)(d:Nat)(hd:(lim (iabs y)).length≤d)(hLy:(lim (iabs y)).length≤2000000000)(hx:ineg x=false)(hy:ineg y=true)(w:World)(h:Hp)(g:G w h)(hA:S3 A (lim (iabs x)) h)(hD:S3 D (lim (iabs y)) h):CR 157 #[.agg #[.bool false,.slice A ((lim (iabs x)).length) c],.agg #[.bool true,.slice D ((lim (iabs y)).length) d]] w h (fun v h1=>RI h1 v (x+y)):=by
 have hs:=(((sS g).aS hA).aS hD);have hx_:=ineg_false hx;have hy_:=ineg_true hy;refine go Tryz.func157 [(0,.agg #[qF,qS A ((lim (iabs x)).length) c]),(1,.agg #[qT,qS D ((lim (iabs y)).length) d])] rfl (cSL (lA 2 54 ([qF,qS A ((lim (iabs x)).length) c]) hs (fun b1 w2 h3 hs=>lA 3 54 ([qT,qS D ((lim (iabs y)).length) d]) hs (fun b4 w5 h6 hs=>lA 4 54 ([qF,sZ]) hs (fun b7 w8 h9 hs=>lN (cQ (cSL (lL hs [.v 5 (pB b1),.o 6 qF 2 0 1,.v 7 (pB b4),.o 8 qT 1 0 1,.v 9 qF] (lN (cIF (cK (cQ (cSL (lL hs [.v 18 (qP b1 1),.o 19 (qS A ((lim (iabs x)).length) c) 2 1 1,.v 20 (qP b4 1),.o 21 (qS D ((lim (iabs y)).length) d) 1 1 1] (lC 22 hs (rNatCmp (iabs x) A c hc (iabs y) D d hd oM oM _ _ hs.g hs.f.2.1 hs.f.1) ?_)))))))))))))));rintro _ _ _ hs rfl;have hcm:=cmpN_cases (iabs x) (iabs y);cases za:(decide ((0:Int)≤(cmpN (iabs x) (iabs y):Int)))
 ·
  have zb:=oF za;refine lB 23 za (lN (cIF (cK (cQ (cR 8 [] mixed hs al_nil ?_)))));refine eV 0 32 (pB b4) (eO 1 33 [(1,0,1)] qT hs (eV 2 34 (qP b4 1) (eO 3 35 [(1,1,1)] (qS D ((lim (iabs y)).length) d) hs (eV 4 36 (qP b1 1) (eO 5 37 [(2,1,1)] (qS A ((lim (iabs x)).length) c) hs (eC 6 38 hs (fun _ _ hs=>rNatSub (iabs y) D d hd (iabs x) A c hc oM oM oM _ _ hs.g hs.f.1 hs.f.2.1) ?_))))));rintro _ _ _ _ _ hs ⟨zp,zq,rfl,zg,zi⟩;replace hs:=hs.aS zi;refine eC 7 39 hs (fun _ _ hs=>rI true ((iabs y)-(iabs x)) zp zq zg _ _ hs.g hs.f.1) ?_;rintro _ _ _ _ _ hs ⟨zc,zd,rfl,zj,zk⟩;replace hs:=hs.aS zk;exact eD0 hs (fun _ _ hs=>tP 8 0 0 ([.bool (ineg (sgn true ((iabs y)-(iabs x)))),qS zc ((lim (iabs (sgn true ((iabs y)-(iabs x))))).length) zd]) hs (fun _ hs=>tN (kX (hs.ret [(0,0,2)] (.agg #[.bool (ineg (sgn true ((iabs y)-(iabs x)))),qS zc ((lim (iabs (sgn true ((iabs y)-(iabs x))))).length) zd]) (by rw[show x+y=(sgn true ((iabs y)-(iabs x))) by unfold sgn iabs at *;simp;omega];exact ⟨_,_,rfl,zj,hs.f.1⟩)))))
 have zb:=oT za;refine lB 23 za (lN (cIT (cQ (cR 8 [] mixed hs al_nil ?_))));refine eV 0 24 (pB b1) (eO 1 25 [(2,0,1)] qF hs (eV 2 26 (qP b1 1) (eO 3 27 [(2,1,1)] (qS A ((lim (iabs x)).length) c) hs (eV 4 28 (qP b4 1) (eO 5 29 [(1,1,1)] (qS D ((lim (iabs y)).length) d) hs (eC 6 30 hs (fun _ _ hs=>rNatSub (iabs x) A c hc (iabs y) D d hd oM oM oM _ _ hs.g hs.f.2.1 hs.f.1) ?_))))));rintro _ _ _ _ _ hs ⟨zr,zs,rfl,zl,zm⟩;replace hs:=hs.aS zm;refine eC 7 31 hs (fun _ _ hs=>rI false ((iabs x)-(iabs y)) zr zs zl _ _ hs.g hs.f.1) ?_;rintro _ _ _ _ _ hs ⟨ze,zf,rfl,zn,zo⟩;replace hs:=hs.aS zo;exact eD0 hs (fun _ _ hs=>tP 8 0 0 ([.bool (ineg (sgn false ((iabs x)-(iabs y)))),qS ze ((lim (iabs (sgn false ((iabs x)-(iabs y))))).length) zf]) hs (fun _ hs=>tN (kX (hs.ret [(0,0,2)] (.agg #[.bool (ineg (sgn false ((iabs x)-(iabs y)))),qS ze ((lim (iabs (sgn false ((iabs x)-(iabs y))))).length) zf]) (by rw[show x+y=(sgn false ((iabs x)-(iabs y))) by unfold sgn iabs at *;simp;omega];exact ⟨_,_,rfl,zn,hs.f.1⟩)))))
theorem rIntAddtf (x:Int)(A:Option Addr)(c:Nat)(hc:(lim (iabs x)).length≤c)(hLx:(lim (iabs x)).length≤2000000000)(y:Int)(D:Option Addr)(d:Nat)(hd:(lim (iabs y)).length≤d)(hLy:(lim (iabs y)).length≤2000000000)(hx:ineg x=true)(hy:ineg y=false)(w:World)(h:Hp)(g:G w h)(hA:S3 A (lim (iabs x)) h)(hD:S3 D (lim (iabs y)) h):CR 157 #[.agg #[.bool true,.slice A ((lim (iabs x)).length) c],.agg #[.bool false,.slice D ((lim (iabs y)).length) d]] w h (fun v h1=>RI h1 v (x+y)):=by
 have hs:=(((sS g).aS hA).aS hD);have hx_:=ineg_true hx;have hy_:=ineg_false hy;refine go Tryz.func157 [(0,.agg #[qT,qS A ((lim (iabs x)).length) c]),(1,.agg #[qF,qS D ((lim (iabs y)).length) d])] rfl (cSL (lA 2 54 ([qT,qS A ((lim (iabs x)).length) c]) hs (fun b1 w2 h3 hs=>lA 3 54 ([qF,qS D ((lim (iabs y)).length) d]) hs (fun b4 w5 h6 hs=>lA 4 54 ([qF,sZ]) hs (fun b7 w8 h9 hs=>lN (cQ (cSL (lL hs [.v 5 (pB b1),.o 6 qT 2 0 1,.v 7 (pB b4),.o 8 qF 1 0 1,.v 9 qF] (lN (cIF (cK (cQ (cSL (lL hs [.v 18 (qP b1 1),.o 19 (qS A ((lim (iabs x)).length) c) 2 1 1,.v 20 (qP b4 1),.o 21 (qS D ((lim (iabs y)).length) d) 1 1 1] (lC 22 hs (rNatCmp (iabs x) A c hc (iabs y) D d hd oM oM _ _ hs.g hs.f.2.1 hs.f.1) ?_)))))))))))))));rintro _ _ _ hs rfl;have hcm:=cmpN_cases (iabs x) (iabs y);cases za:(decide ((0:Int)≤(cmpN (iabs x) (iabs y):Int)))
 ·
  have zb:=oF za;refine lB 23 za (lN (cIF (cK (cQ (cR 8 [] mixed hs al_nil ?_)))));refine eV 0 32 (pB b4) (eO 1 33 [(1,0,1)] qF hs (eV 2 34 (qP b4 1) (eO 3 35 [(1,1,1)] (qS D ((lim (iabs y)).length) d) hs (eV 4 36 (qP b1 1) (eO 5 37 [(2,1,1)] (qS A ((lim (iabs x)).length) c) hs (eC 6 38 hs (fun _ _ hs=>rNatSub (iabs y) D d hd (iabs x) A c hc oM oM oM _ _ hs.g hs.f.1 hs.f.2.1) ?_))))));rintro _ _ _ _ _ hs ⟨zp,zq,rfl,zg,zi⟩;replace hs:=hs.aS zi;refine eC 7 39 hs (fun _ _ hs=>rI false ((iabs y)-(iabs x)) zp zq zg _ _ hs.g hs.f.1) ?_;rintro _ _ _ _ _ hs ⟨zc,zd,rfl,zj,zk⟩;replace hs:=hs.aS zk;exact eD0 hs (fun _ _ hs=>tP 8 0 0 ([.bool (ineg (sgn false ((iabs y)-(iabs x)))),qS zc ((lim (iabs (sgn false ((iabs y)-(iabs x))))).length) zd]) hs (fun _ hs=>tN (kX (hs.ret [(0,0,2)] (.agg #[.bool (ineg (sgn false ((iabs y)-(iabs x)))),qS zc ((lim (iabs (sgn false ((iabs y)-(iabs x))))).length) zd]) (by rw[show x+y=(sgn false ((iabs y)-(iabs x))) by unfold sgn iabs at *;simp;omega];exact ⟨_,_,rfl,zj,hs.f.1⟩)))))
 have zb:=oT za;refine lB 23 za (lN (cIT (cQ (cR 8 [] mixed hs al_nil ?_))));refine eV 0 24 (pB b1) (eO 1 25 [(2,0,1)] qT hs (eV 2 26 (qP b1 1) (eO 3 27 [(2,1,1)] (qS A ((lim (iabs x)).length) c) hs (eV 4 28 (qP b4 1) (eO 5 29 [(1,1,1)] (qS D ((lim (iabs y)).length) d) hs (eC 6 30 hs (fun _ _ hs=>rNatSub (iabs x) A c hc (iabs y) D d hd oM oM oM _ _ hs.g hs.f.2.1 hs.f.1) ?_))))));rintro _ _ _ _ _ hs ⟨zr,zs,rfl,zl,zm⟩;replace hs:=hs.aS zm;refine eC 7 31 hs (fun _ _ hs=>rI true ((iabs x)-(iabs y)) zr zs zl _ _ hs.g hs.f.1) ?_;rintro _ _ _ _ _ hs ⟨ze,zf,rfl,zn,zo⟩;replace hs:=hs.aS zo;exact eD0 hs (fun _ _ hs=>tP 8 0 0 ([.bool (ineg (sgn true ((iabs x)-(iabs y)))),qS ze ((lim (iabs (sgn true ((iabs x)-(iabs y))))).length) zf]) hs (fun _ hs=>tN (kX (hs.ret [(0,0,2)] (.agg #[.bool (ineg (sgn true ((iabs x)-(iabs y)))),qS ze ((lim (iabs (sgn true ((iabs x)-(iabs y))))).length) zf]) (by rw[show x+y=(sgn true ((iabs x)-(iabs y))) by unfold sgn iabs at *;simp;omega];exact ⟨_,_,rfl,zn,hs.f.1⟩)))))
theorem rIntAddtt (x:Int)(A:Option Addr)(c:Nat)(hc:(lim (iabs x)).length≤c)(hLx:(lim (iabs x)).length≤2000000000)(y:Int)(D:Option Addr)(d:Nat)(hd:(lim (iabs y)).length≤d)(hLy:(lim (iabs y)).length≤2000000000)(hx:ineg x=true)(hy:ineg y=true)(w:World)(h:Hp)(g:G w h)(hA:S3 A (lim (iabs x)) h)(hD:S3 D (lim (iabs y)) h):CR 157 #[.agg #[.bool true,.slice A ((lim (iabs x)).length) c],.agg #[.bool true,.slice D ((lim (iabs y)).length) d]] w h (fun v h1=>RI h1 v (x+y)):=by
 have hs:=(((sS g).aS hA).aS hD);have hx_:=ineg_true hx;have hy_:=ineg_true hy;refine go Tryz.func157 [(0,.agg #[qT,qS A ((lim (iabs x)).length) c]),(1,.agg #[qT,qS D ((lim (iabs y)).length) d])] rfl (cSL (lA 2 54 ([qT,qS A ((lim (iabs x)).length) c]) hs (fun b1 w2 h3 hs=>lA 3 54 ([qT,qS D ((lim (iabs y)).length) d]) hs (fun b4 w5 h6 hs=>lA 4 54 ([qF,sZ]) hs (fun b7 w8 h9 hs=>lN (cQ (cSL (lL hs [.v 5 (pB b1),.o 6 qT 2 0 1,.v 7 (pB b4),.o 8 qT 1 0 1,.v 9 qT] (lN (cIT (cQ (cR 8 [] mixed hs al_nil ?_))))))))))));refine eV 0 10 (pB b1) (eO 1 11 [(2,0,1)] qT hs (eV 2 12 (qP b1 1) (eO 3 13 [(2,1,1)] (qS A ((lim (iabs x)).length) c) hs (eV 4 14 (qP b4 1) (eO 5 15 [(1,1,1)] (qS D ((lim (iabs y)).length) d) hs (eC 6 16 hs (fun _ _ hs=>rNatAdd (iabs x) A c hc (iabs y) D d hd oM oM _ _ hs.g hs.f.2.1 hs.f.1) ?_))))));rintro _ _ _ _ _ hs ⟨zg,zi,rfl,zc,zd⟩;replace hs:=hs.aS zd;refine eC 7 17 hs (fun _ _ hs=>rI true ((iabs x)+(iabs y)) zg zi zc _ _ hs.g hs.f.1) ?_;rintro _ _ _ _ _ hs ⟨za,zb,rfl,ze,zf⟩;replace hs:=hs.aS zf;exact eD0 hs (fun _ _ hs=>tP 8 0 0 ([.bool (ineg (sgn true ((iabs x)+(iabs y)))),qS za ((lim (iabs (sgn true ((iabs x)+(iabs y))))).length) zb]) hs (fun _ hs=>tN (kX (hs.ret [(0,0,2)] (.agg #[.bool (ineg (sgn true ((iabs x)+(iabs y)))),qS za ((lim (iabs (sgn true ((iabs x)+(iabs y))))).length) zb]) (by rw[show x+y=(sgn true ((iabs x)+(iabs y))) by unfold sgn iabs at *;simp;omega];exact ⟨_,_,rfl,ze,hs.f.1⟩)))))
theorem rIntAdd (x:Int)(A:Option Addr)(c:Nat)(hc:(lim (iabs x)).length≤c)(hLx:(lim (iabs x)).length≤2000000000)(y:Int)(D:Option Addr)(d:Nat)(hd:(lim (iabs y)).length≤d)(hLy:(lim (iabs y)).length≤2000000000)(w:World)(h:Hp)(g:G w h)(hA:S3 A (lim (iabs x)) h)(hD:S3 D (lim (iabs y)) h):CR 157 #[.agg #[.bool (ineg x),.slice A (lim (iabs x)).length c],.agg #[.bool (ineg y),.slice D (lim (iabs y)).length d]] w h (fun v h1=>RI h1 v (x+y)):=by
  rcases hx:ineg x with _|_<;>rcases hy:ineg y with _|_
  · exact rIntAddff x A c hc hLx y D d hd hLy hx hy w h g hA hD
  · exact rIntAddft x A c hc hLx y D d hd hLy hx hy w h g hA hD
  · exact rIntAddtf x A c hc hLx y D d hd hLy hx hy w h g hA hD
  · exact rIntAddtt x A c hc hLx y D d hd hLy hx hy w h g hA hD
theorem rIntSignZ (x:Int)(A:Option Addr)(c:Nat)(hc:(lim (iabs x)).length≤c)(hLx:(lim (iabs x)).length≤2000000000)(hz:x=0)(w:World)(h:Hp)(g:G w h)(hA:S3 A (lim (iabs x)) h):CV 142 #[.agg #[.bool (ineg x),.slice A ((lim (iabs x)).length) c]] w h (iV x.sign):=by
 have hs:=((sS g).aS hA);have hlp:=@lim_pos (iabs x);have hia:iabs x=x.natAbs:=rfl;refine go Tryz.func142 [(0,.agg #[.bool (ineg x),qS A ((lim (iabs x)).length) c])] rfl (cSL (lA 1 54 ([.bool (ineg x),qS A ((lim (iabs x)).length) c]) hs (fun b1 w2 h3 hs=>lL hs [.v 2 (iV 0)] (lN (cQ (kZ (cSL (lL hs [.v 4 (qP b1 1),.o 5 (qS A ((lim (iabs x)).length) c) 0 1 1,.v 6 (nV ((lim (iabs x)).length))] ?_))))))));have hb4:((((lim (iabs x)).length:Nat):Int) == (0:Int))=true:=beqT oM;have phb4:=eq_of_beq hb4;exact lB 7 hb4 (lL hs [.m 3 7] (lN (cIT (cSL (lL hs [.v 2 (iV 0)] (lN (kX (hs.ret [] (iV 0) (by subst hz;rfl)))))))))
theorem rIntSignN (x:Int)(A:Option Addr)(c:Nat)(hc:(lim (iabs x)).length≤c)(hLx:(lim (iabs x)).length≤2000000000)(hz:x<0)(w:World)(h:Hp)(g:G w h)(hA:S3 A (lim (iabs x)) h):CV 142 #[.agg #[.bool true,.slice A ((lim (iabs x)).length) c]] w h (iV x.sign):=by
 have hs:=((sS g).aS hA);have hlp:=@lim_pos (iabs x);have hia:iabs x=x.natAbs:=rfl;refine go Tryz.func142 [(0,.agg #[qT,qS A ((lim (iabs x)).length) c])] rfl (cSL (lA 1 54 ([qT,qS A ((lim (iabs x)).length) c]) hs (fun b1 w2 h3 hs=>lL hs [.v 2 (iV 0)] (lN (cQ (kZ (cSL (lL hs [.v 4 (qP b1 1),.o 5 (qS A ((lim (iabs x)).length) c) 0 1 1,.v 6 (nV ((lim (iabs x)).length))] ?_))))))));have hb4:((((lim (iabs x)).length:Nat):Int) == (0:Int))=false:=beqF oM;have phb4:=neOfBeq hb4;exact lB 7 hb4 (lL hs [.m 3 7] (lN (cIF (cSL (lL hs [.v 9 (pB b1),.o 10 qT 0 0 1,.m 8 10] (lN (cIT (cSL (lL hs [.v 2 (iV (-1))] (lN (kX (hs.ret [] (iV (-1)) (by rw[Int.sign_eq_neg_one_of_neg hz])))))))))))))
theorem rIntSignP (x:Int)(A:Option Addr)(c:Nat)(hc:(lim (iabs x)).length≤c)(hLx:(lim (iabs x)).length≤2000000000)(hz:0<x)(w:World)(h:Hp)(g:G w h)(hA:S3 A (lim (iabs x)) h):CV 142 #[.agg #[.bool false,.slice A ((lim (iabs x)).length) c]] w h (iV x.sign):=by
 have hs:=((sS g).aS hA);have hlp:=@lim_pos (iabs x);have hia:iabs x=x.natAbs:=rfl;refine go Tryz.func142 [(0,.agg #[qF,qS A ((lim (iabs x)).length) c])] rfl (cSL (lA 1 54 ([qF,qS A ((lim (iabs x)).length) c]) hs (fun b1 w2 h3 hs=>lL hs [.v 2 (iV 0)] (lN (cQ (kZ (cSL (lL hs [.v 4 (qP b1 1),.o 5 (qS A ((lim (iabs x)).length) c) 0 1 1,.v 6 (nV ((lim (iabs x)).length))] ?_))))))));have hb4:((((lim (iabs x)).length:Nat):Int) == (0:Int))=false:=beqF oM;have phb4:=neOfBeq hb4;exact lB 7 hb4 (lL hs [.m 3 7] (lN (cIF (cSL (lL hs [.v 9 (pB b1),.o 10 qF 0 0 1,.m 8 10] (lN (cIF (cK (cSL (lL hs [.v 2 (iV 1)] (lN (kX (hs.ret [] (iV 1) (by rw[Int.sign_eq_one_of_pos hz]))))))))))))))
theorem rIntSign (x:Int)(A:Option Addr)(c:Nat)(hc:(lim (iabs x)).length≤c)(hLx:(lim (iabs x)).length≤2000000000)(w:World)(h:Hp)(g:G w h)(hA:S3 A (lim (iabs x)) h):CV 142 #[.agg #[.bool (ineg x),.slice A (lim (iabs x)).length c]] w h (iV x.sign):=by
  rcases Int.lt_trichotomy x 0 with hz|hz|hz
  · have:=rIntSignN x A c hc hLx hz w h g hA
    rwa [←show ineg x=true by simp[ineg,hz]] at this
  · exact rIntSignZ x A c hc hLx hz w h g hA
  · have:=rIntSignP x A c hc hLx hz w h g hA
    rwa [←show ineg x=false by simp[ineg];omega] at this
theorem rIntSub (x:Int)(A:Option Addr)(c:Nat)(hc:(lim (iabs x)).length≤c)(hLx:(lim (iabs x)).length≤2000000000)(y:Int)(D:Option Addr)(d:Nat)(hd:(lim (iabs y)).length≤d)(hLy:(lim (iabs y)).length≤2000000000)(w:World)(h:Hp)(g:G w h)(hA:S3 A (lim (iabs x)) h)(hD:S3 D (lim (iabs y)) h):CR 143 #[.agg #[.bool (ineg x),.slice A ((lim (iabs x)).length) c],.agg #[.bool (ineg y),.slice D ((lim (iabs y)).length) d]] w h (fun v h1=>RI h1 v (x-y)):=by
 have hs:=(((sS g).aS hA).aS hD);have hny:(lim (iabs (-y))).length=(lim (iabs y)).length:=by unfold iabs;rw[Int.natAbs_neg]
 refine go Tryz.func143 [(0,.agg #[.bool (ineg x),qS A ((lim (iabs x)).length) c]),(1,.agg #[.bool (ineg y),qS D ((lim (iabs y)).length) d])] rfl (cSL (lA 2 54 ([.bool (ineg x),qS A ((lim (iabs x)).length) c]) hs (fun b1 w2 h3 hs=>lA 3 54 ([.bool (ineg y),qS D ((lim (iabs y)).length) d]) hs (fun b4 w5 h6 hs=>lA 4 54 ([qF,sZ]) hs (fun b7 w8 h9 hs=>lN (cQ (cR 4 [] mixed hs al_nil ?_)))))));refine eO 0 5 [(2,0,2)] (.agg #[.bool (ineg x),qS A ((lim (iabs x)).length) c]) hs (eO 1 6 [(1,0,2)] (.agg #[.bool (ineg y),qS D ((lim (iabs y)).length) d]) hs (eC 2 7 hs (fun _ _ hs=>rIntNeg y D d hd oM _ _ hs.g hs.f.1) ?_));rintro _ _ _ _ _ hs ⟨zg,zi,rfl,zc,zd⟩;replace hs:=hs.aS zd;refine eC 3 8 hs (fun _ _ hs=>rIntAdd x A c hc oM (-y) zg zi zc oM _ _ hs.g hs.f.r.1 hs.f.1) ?_;rintro _ _ _ _ _ hs ⟨za,zb,rfl,ze,zf⟩;replace hs:=hs.aS zf;exact eD0 hs (fun _ _ hs=>tP 4 0 0 ([.bool (ineg (x+(-y))),qS za ((lim (iabs (x+(-y)))).length) zb]) hs (fun _ hs=>tN (kX (hs.ret [(0,0,2)] (.agg #[.bool (ineg (x+(-y))),qS za ((lim (iabs (x+(-y)))).length) zb]) (by rw[Int.sub_eq_add_neg];exact ⟨_,_,rfl,ze,hs.f.1⟩)))))
theorem cmpI_sign (x y:Int):(x-y).sign=cmpI x y:=by
  unfold cmpI
  rcases Int.lt_trichotomy x y with h|h|h
  · rw[if_pos h,Int.sign_eq_neg_one_of_neg oM]
  · subst h;simp
  · rw[if_neg oM,if_pos h,Int.sign_eq_one_of_pos oM]
theorem rIntCmp (x:Int)(A:Option Addr)(c:Nat)(hc:(lim (iabs x)).length≤c)(hLx:(lim (iabs x)).length≤1999999999)(y:Int)(D:Option Addr)(d:Nat)(hd:(lim (iabs y)).length≤d)(hLy:(lim (iabs y)).length≤1999999999)(w:World)(h:Hp)(g:G w h)(hA:S3 A (lim (iabs x)) h)(hD:S3 D (lim (iabs y)) h):CV 115 #[.agg #[.bool (ineg x),.slice A ((lim (iabs x)).length) c],.agg #[.bool (ineg y),.slice D ((lim (iabs y)).length) d]] w h (iV (cmpI x y)):=by
 have hs:=(((sS g).aS hA).aS hD);have hxy:(lim (iabs (x-y))).length≤2000000000:=lim_len_le' (show iabs (x-y)≤iabs x+iabs y by unfold iabs;omega) (lim_len_max hLx hLy);refine go Tryz.func115 [(0,.agg #[.bool (ineg x),qS A ((lim (iabs x)).length) c]),(1,.agg #[.bool (ineg y),qS D ((lim (iabs y)).length) d])] rfl (cSL (lA 2 54 ([.bool (ineg x),qS A ((lim (iabs x)).length) c]) hs (fun b1 w2 h3 hs=>lA 3 54 ([.bool (ineg y),qS D ((lim (iabs y)).length) d]) hs (fun b4 w5 h6 hs=>lL hs [.v 4 (iV 0)] (lNS (lL hs [.o 5 (.agg #[.bool (ineg x),qS A ((lim (iabs x)).length) c]) 1 0 2,.o 6 (.agg #[.bool (ineg y),qS D ((lim (iabs y)).length) d]) 0 0 2] (lC 7 hs (rIntSub x A c hc oM y D d hd oM _ _ hs.g hs.f.2.1 hs.f.1) ?_)))))));rintro _ _ _ hs ⟨A7,c8,rfl,hc9,za⟩;replace hs:=hs.aS za;refine lC 8 hs (rIntSign (x-y) A7 c8 hc9 oM _ _ hs.g hs.f.1) ?_;rintro _ _ _ hs rfl;exact lL hs [.m 4 8] (lN (kX (hs.ret [] (iV (((x-y)).sign)) (by rw[cmpI_sign]))))
theorem mkR_parts (n d:Int)(hd:d≠0):(mkR n d).num=sgn (ineg n != ineg d) (iabs n/Nat.gcd (iabs n) (iabs d))∧(mkR n d).den=iabs d/Nat.gcd (iabs n) (iabs d)∧0<Nat.gcd (iabs n) (iabs d):=by
  have hd0:0<iabs d:=by unfold iabs;omega
  have hz:iabs (if d<0 then -n else n)=iabs n:=by unfold iabs;split<;>omega
  obtain ⟨h1,h2,h3,h4⟩:=mkRat_parts (if d<0 then -n else n) (iabs d) hd0;rw[hz] at h1 h2 h3 h4
  refine ⟨?_,h2,h4⟩;have hs:=sgn_part _ _ h3;rw[hz] at hs
  show (mkRat _ _).num=_
  rw[h1,←hs]
  by_cases hn:n=0
  · have hk:iabs n/Nat.gcd (iabs n) (iabs d)=0:=by rw[hn];exact Nat.zero_div _
    rw[hk]
    unfold sgn
    simp
  · have e:decide ((if d<0 then -n else n).sign<0)=(ineg n != ineg d):=by
      unfold ineg
      rcases Int.lt_trichotomy n 0 with a|a|a
      · rcases Int.lt_trichotomy d 0 with b|b|b
        · rw[if_pos b,Int.sign_eq_one_of_pos oM];simp[a,b]
        · exact absurd b hd
        · rw[if_neg oM,Int.sign_eq_neg_one_of_neg a];simp[a,show ¬d<0 by omega]
      · exact absurd a hn
      · rcases Int.lt_trichotomy d 0 with b|b|b
        · rw[if_pos b,Int.sign_eq_neg_one_of_neg oM];simp[show ¬n<0 by omega,b]
        · exact absurd b hd
        · rw[if_neg oM,Int.sign_eq_one_of_pos a];simp[show ¬n<0 by omega,show ¬d<0 by omega]
    rw[e]
theorem lim_imul (x:Int)(d:Nat):(lim (iabs (x*((d:Nat):Int)))).length≤(lim (iabs x)).length+(lim d).length:=by
  have:iabs (x*((d:Nat):Int))=iabs x*d:=Int.natAbs_mul x (d:Int);rw[this];exact lim_len_mul
theorem rDen (a:Rat)(A1:Option Addr)(c1:Nat)(D1:Option Addr)(d1:Nat)(hc1:(lim (iabs a.num)).length≤c1)(hd1:(lim a.den).length≤d1)(hn1:(lim (iabs a.num)).length≤300000000)(hm1:(lim a.den).length≤300000000)(w:World)(h:Hp)(g:G w h)(hA1:S3 A1 (lim (iabs a.num)) h)(hD1:S3 D1 (lim a.den) h):CR 117 #[.agg #[.bool (ineg a.num),.slice A1 ((lim (iabs a.num)).length) c1,.slice D1 ((lim (a.den)).length) d1]] w h (fun v h1=>RI h1 v (a.den:Int)):=by
 have hs:=(((sS g).aS hA1).aS hD1);refine go Tryz.func117 [(0,.agg #[.bool (ineg a.num),qS A1 ((lim (iabs a.num)).length) c1,qS D1 ((lim (a.den)).length) d1])] rfl (cSL (lA 1 56 ([.bool (ineg a.num),qS A1 ((lim (iabs a.num)).length) c1,qS D1 ((lim (a.den)).length) d1]) hs (fun b1 w2 h3 hs=>lA 2 54 ([qF,sZ]) hs (fun b4 w5 h6 hs=>lNS (lL hs [.v 3 (qP b1 2),.o 4 (qS D1 ((lim (a.den)).length) d1) 1 2 1] (lC 5 hs (rI false a.den D1 d1 hd1 _ _ hs.g hs.f.1) ?_))))));rintro _ _ _ hs ⟨A7,c8,rfl,hc9,za⟩;replace hs:=hs.aS za;exact lP 0 0 ([.bool (ineg (sgn false a.den)),qS A7 ((lim (iabs (sgn false a.den))).length) c8]) hs (fun _ hs=>lN (kX (hs.ret [(0,0,2)] (.agg #[.bool (ineg (sgn false a.den)),qS A7 ((lim (iabs (sgn false a.den))).length) c8]) (⟨_,_,rfl,hc9,hs.f.1⟩))))
theorem rCmp (a:Rat)(A1:Option Addr)(c1:Nat)(D1:Option Addr)(d1:Nat)(hc1:(lim (iabs a.num)).length≤c1)(hd1:(lim a.den).length≤d1)(hn1:(lim (iabs a.num)).length≤300000000)(hm1:(lim a.den).length≤300000000)(b:Rat)(A2:Option Addr)(c2:Nat)(D2:Option Addr)(d2:Nat)(hc2:(lim (iabs b.num)).length≤c2)(hd2:(lim b.den).length≤d2)(hn2:(lim (iabs b.num)).length≤300000000)(hm2:(lim b.den).length≤300000000)(w:World)(h:Hp)(g:G w h)(hA1:S3 A1 (lim (iabs a.num)) h)(hD1:S3 D1 (lim a.den) h)(hA2:S3 A2 (lim (iabs b.num)) h)(hD2:S3 D2 (lim b.den) h):CV 85 #[.agg #[.bool (ineg a.num),.slice A1 ((lim (iabs a.num)).length) c1,.slice D1 ((lim (a.den)).length) d1],.agg #[.bool (ineg b.num),.slice A2 ((lim (iabs b.num)).length) c2,.slice D2 ((lim (b.den)).length) d2]] w h (iV (cmpR a b)):=by
 have hs:=(((((sS g).aS hA1).aS hD1).aS hA2).aS hD2);have hx1:=lim_imul a.num b.den;have hx2:=lim_imul b.num a.den;refine go Tryz.func85 [(0,.agg #[.bool (ineg a.num),qS A1 ((lim (iabs a.num)).length) c1,qS D1 ((lim (a.den)).length) d1]),(1,.agg #[.bool (ineg b.num),qS A2 ((lim (iabs b.num)).length) c2,qS D2 ((lim (b.den)).length) d2])] rfl (cSL (lA 2 56 ([.bool (ineg a.num),qS A1 ((lim (iabs a.num)).length) c1,qS D1 ((lim (a.den)).length) d1]) hs (fun b1 w2 h3 hs=>lA 3 56 ([.bool (ineg b.num),qS A2 ((lim (iabs b.num)).length) c2,qS D2 ((lim (b.den)).length) d2]) hs (fun b4 w5 h6 hs=>lL hs [.v 4 (iV 0)] (lN (cQ (cR 11 [] mixed hs al_nil ?_)))))));refine eV 0 5 (pB b1) (eO 1 6 [(1,0,2)] (.agg #[.bool (ineg a.num),qS A1 ((lim (iabs a.num)).length) c1]) hs (eO 2 7 [(0,0,3)] (.agg #[.bool (ineg b.num),qS A2 ((lim (iabs b.num)).length) c2,qS D2 ((lim (b.den)).length) d2]) hs (eV 5 10 (pB b4) (eO 6 11 [(0,0,2)] (.agg #[.bool (ineg b.num),qS A2 ((lim (iabs b.num)).length) c2]) hs (eO 7 12 [(1,0,3)] (.agg #[.bool (ineg a.num),qS A1 ((lim (iabs a.num)).length) c1,qS D1 ((lim (a.den)).length) d1]) hs (eC 3 8 hs (fun _ _ hs=>rDen b A2 c2 D2 d2 hc2 hd2 oM oM _ _ hs.g hs.f.2.1 hs.f.1) ?_))))));rintro _ _ _ _ _ hs ⟨A7,c8,rfl,hc9,za⟩;replace hs:=hs.aS za;refine eC 4 9 hs (fun _ _ hs=>rIntMul a.num A1 c1 hc1 oM (b.den:Int) A7 c8 hc9 (show (lim (b.den)).length≤2000000000 by omega) _ _ hs.g hs.f.q.1 hs.f.1) ?_;rintro _ _ _ _ _ hs ⟨zi,zj,rfl,zb,zc⟩;replace hs:=hs.aS zc;refine eC 8 13 hs (fun _ _ hs=>rDen a A1 c1 D1 d1 hc1 hd1 oM oM _ _ hs.g hs.f.q.2.1 hs.f.q.1) ?_;rintro _ _ _ _ _ hs ⟨zk,zl,rfl,zd,ze⟩;replace hs:=hs.aS ze;refine eC 9 14 hs (fun _ _ hs=>rIntMul b.num A2 c2 hc2 oM (a.den:Int) zk zl zd (show (lim (a.den)).length≤2000000000 by omega) _ _ hs.g hs.f.q.1 hs.f.1) ?_;rintro _ _ _ _ _ hs ⟨zm,zn,rfl,zf,zg⟩;replace hs:=hs.aS zg;refine eC 10 15 hs (fun _ _ hs=>rIntCmp (a.num*(b.den:Int)) zi zj zb oM (b.num*(a.den:Int)) zm zn zf oM _ _ hs.g hs.f.r.1 hs.f.1) ?_;rintro _ _ _ _ _ hs rfl;exact eD0 hs (fun _ _ hs=>tV 11 4 (iV (cmpI (a.num*(b.den:Int)) (b.num*(a.den:Int)))) (tN (kX (hs.ret [] (iV (cmpI (a.num*(b.den:Int)) (b.num*(a.den:Int)))) rfl))))
theorem lim_small {z:Int}(h0 : -9223372036854775808≤z)(h1:z<9223372036854775808):(lim (iabs z)).length≤2:=lim_len_le (by unfold iabs;omega)
theorem rOf (z:Int)(h0 : -9223372036854775808≤z)(h1:z<9223372036854775808)(w:World)(h:Hp)(g:G w h):CR 80 #[iV z] w h (fun v h1=>RQ h1 v (z:Rat)):=by
 have hs:=sS g;refine go Tryz.func80 [(0,iV z)] rfl (cSL (lA 2 56 ([qF,sZ,sZ]) hs (fun b1 w2 h3 hs=>lNS (lL hs [.m 3 0] (lC 4 hs (rIntOf z oM oM _ _ hs.g) ?_)))));rintro _ w8 h9 hs ⟨A4,c5,rfl,hc6,hA7⟩;replace hs:=hs.aS hA7;refine lC 5 hs (rNatOf 1 oM _ _ hs.g) ?_;rintro _ _ _ hs ⟨za,zb,rfl,zc,zd⟩;replace hs:=hs.aS zd;exact lL hs [.v 6 (.agg #[.bool (ineg z),qS A4 ((lim (iabs z)).length) c5,qS za ((lim 1).length) zb])] (lP 0 0 ([.bool (ineg z),qS A4 ((lim (iabs z)).length) c5,qS za ((lim 1).length) zb]) hs (fun _ hs=>lN (kX (hs.ret [(0,0,3)] (.agg #[.bool (ineg z),qS A4 ((lim (iabs z)).length) c5,qS za ((lim 1).length) zb]) (by unfold RQ;rw[Rat.num_intCast,Rat.den_intCast];exact ⟨_,_,_,_,rfl,hc6,zc,hs.f.2.1,hs.f.1⟩)))))
theorem opShrU {P:Program}{Γ:Env}{o:Oper}{t u:TypeId}{x y:Operand}{k ky:IntKind}{a n:Nat}(ho:o.op=.binOp .shr t x y u)(hx:ev Γ x=.int k (a:Int))(hy:ev Γ y=.int ky (n:Int))(hn:n≤k.bits)(w:World) :
    (execOp (ev Γ) o).run P w=.ok (.value (.int k ((a/2^n:Nat):Int))) w:=by
  have:=opShr (P:=P) ho hx hy hn w;rw[show ((a:Int)/2^n)=((a/2^n:Nat):Int) by simp] at this
  exact this
theorem opShlU32 {P:Program}{Γ:Env}{o:Oper}{t u:TypeId}{x y:Operand}{ky:IntKind}{a n:Nat}(ho:o.op=.binOp .shl t x y u)(hx:ev Γ x=.int .u32 (a:Int))(hy:ev Γ y=.int ky (n:Int))(hn:n≤32)(hf:a*2^n<4294967296)(w:World) :
    (execOp (ev Γ) o).run P w=.ok (.value (.int .u32 ((a*2^n:Nat):Int))) w:=by
  have:=opShl (P:=P) ho hx hy hn w;rw[show ((a:Int)*2^n)=((a*2^n:Nat):Int) by simp,fnU32 hf] at this
  exact this
theorem rNatBytes (a:Nat)(A:Option Addr)(c:Nat)(hc:(lim a).length≤c)(hLa:(lim a).length≤4000000000)(w:World)(h:Hp)(g:G w h)(hA:S3 A (lim a) h):CR 55 #[.slice A ((lim a).length) c] w h (fun v h1=>∃ A,v=.slice A ((nb a+7)/8) ((nb a+7)/8)∧SlO 1 u8c 0 h1 A (byt a ((nb a+7)/8))):=by
 have hs:=((sS g).aS hA);have hna:=nb_len a;refine go Tryz.func55 [(0,qS A ((lim a).length) c)] rfl (cSL (lL hs [.v 2 (sZ)] (lNS (lL hs [.m 6 0] (lC 7 hs (rNatBits a A c hc hLa _ _ hs.g hs.f.1) ?_)))));rintro _ w1 h2 hs rfl;refine lIn 8 ((nb a:Nat)+7) ((nb a)+7) (lV 9 (nV (((nb a)+7)/8)) ?_ (hr:=rint (opQuo (t:=3) (u:=3) (x:=.tmp 8) (y:=.const (iV 8)) (k:=.i64) (a:=(((nb a)+7:Nat):Int)) (b:=(8:Int)) kR kR kR oM _) (quoI64 ((nb a)+7) 8 oM)));refine lL hs [.m 3 9] (lNS (lL hs [.m 10 3] (lK 11 5 (((nb a)+7)/8:Nat) 1 1 (.int .u8 0) u8c 0 hs (fun b3 w4 h5 hs=>?_))));have hl6:(List.replicate (((nb a)+7)/8:Nat) 0).length=(((nb a)+7)/8:Nat):=by simp
 refine lL hs [.m 4 11] (lN (cQ (cSL (lL hs [.v 5 (iV 0)] (lN (kZ ?_))))));refine cTo _ (CG.loop (fun μ_ Γ w_=>∃ (i:Nat) (l:List Nat) (h_:Hp),μ_=((nb a+7)/8)-i∧Γ=[(0,qS A ((lim a).length) c),(2,sZ),(3,nV (((nb a)+7)/8)),(4,qS (sB b3) (((nb a)+7)/8:Nat) (((nb a)+7)/8:Nat)),(5,nV i)]∧SS w h w_ h_ [⟨b3,5,(l).flatMap u8c⟩] [] [S3 A (lim a)]∧i≤((nb a+7)/8)∧l.length=((nb a+7)/8)∧(∀ j,j<i→l.getD (((nb a+7)/8)-1-j) 0=a/256^j%256)) _ ⟨0,List.replicate (((nb a)+7)/8:Nat) 0,h5,rfl,rfl,hs.to _ _,Nat.zero_le _,hl6,(fun j hj=>absurd hj oM)⟩ ?_);rintro _ _ w7 ⟨i,l,h8,hm9,rfl,hs,hi,hll,hg⟩;have hai:=(Ld.lim a).get (i/4);refine cQ (cSL (lL hs [.m 12 5,.m 13 3] ?_));cases za:(decide ((i:Int)<((((nb a)+7)/8:Nat):Int)))
 ·
  have zb:=oF za;refine lB 14 za (lN (cIF (CG.exit ?_)))
  show CG _ _ _ _ _ _ _ _
  refine cSL (lL hs [.m 34 4,.m 2 34] (lN (kX ?_)));have him:i=((nb a+7)/8):=by omega
  have hlb:l=byt a ((nb a+7)/8):=eq_byt hll (fun j hj=>hg j oM);rw[hlb] at hs
  obtain ⟨_,hs,sg12,lo13,bc14⟩:=hs.pub 0;replace hs:=(hs.to [] []).aS (SlO.of_flat (sz:=1) (f:=u8c) (d:=0) (b:=b3) (o:=0) (l:=byt a ((nb a+7)/8)) (fun _=>rfl) sg12);exact hs.ret [] (qS (sB b3) (((nb a)+7)/8:Nat) (((nb a)+7)/8:Nat)) (⟨sB b3,rfl,hs.f.1⟩)
 have zb:=oT za;refine lB 14 za (lN (cIT (cK (cQ (kZ (kQ (lL hs [.m 17 4,.m 18 3] (lIn 19 ((((nb a)+7)/8:Nat)-1) ((((nb a)+7)/8:Nat)-1) ?_))))))));refine lL hs [.m 20 5] (lIn 21 (((((nb a)+7)/8:Nat)-1:Nat)-(i:Nat)) (((((nb a)+7)/8:Nat)-1:Nat)-i) ?_);refine lL hs [.m 22 0,.m 23 5] (lV 24 (nV (i/4)) ?_ (hr:=rint (opQuo (t:=3) (u:=3) (x:=.tmp 23) (y:=.const (iV 4)) (k:=.i64) (a:=(i:Int)) (b:=(4:Int)) kR kR kR oM _) (quoI64 i 4 oM)));refine lX 25 A ((lim a).length) c 1 (i/4:Nat) (i/4) ((hs.f.1).ok oM) (lH 26 (mW ((lim a).getD (i/4) 0)) hs ((hs.f.1).el (i/4) oM) (lL hs [.m 27 5] (lV 28 (nV (i%4)) ?_ (hr:=rint (opRem (t:=3) (u:=3) (x:=.tmp 27) (y:=.const (iV 4)) (k:=.i64) (a:=(i:Int)) (b:=(4:Int)) kR kR kR oM _) (tmodNat i 4)))));refine lIn 29 (8*(i%4:Nat)) (8*(i%4)) (lV 30 (mV (8*(i%4))) ?_ (hr:=rU (((8*(i%4):Nat):Int)) kR (fitU64 oM oM)));refine lV 31 (mW ((lim a).getD (i/4) 0/2^(8*(i%4)))) ?_ (hr:=opShrU (t:=151) (u:=152) (x:=.tmp 26) (y:=.tmp 30) (k:=.u32) (ky:=.u64) (a:=(lim a).getD (i/4) 0) (n:=8*(i%4)) kR kR kR (show 8*(i%4)≤32 by omega) _);refine lV 32 (.int .u8 ((lim a).getD (i/4) 0/2^(8*(i%4))%256:Nat)) ?_ (hr:=rint (n:=IntKind.wrap .u8 (((lim a).getD (i/4) 0/2^(8*(i%4)):Nat):Int)) kR (wrU8 _));refine lX 33 (sB b3) (((nb a)+7)/8:Nat) (((nb a)+7)/8:Nat) 1 (((((nb a)+7)/8:Nat)-1:Nat)-i:Nat) (((((nb a)+7)/8:Nat)-1:Nat)-i:Nat) rfl (lW 0 l u8c 1 (((((nb a)+7)/8:Nat)-1:Nat)-i:Nat) ((lim a).getD (i/4) 0/2^(8*(i%4))%256:Nat) hs oM (fun _ hs=>?_));have zc:((l).set (((((nb a)+7)/8:Nat)-1:Nat)-i:Nat) ((lim a).getD (i/4) 0/2^(8*(i%4))%256:Nat)).length=(((nb a)+7)/8:Nat):=by rw[List.length_set];exact hll
 replace hs:=hs.to [⟨b3,5,((l).set (((((nb a)+7)/8:Nat)-1:Nat)-i:Nat) ((lim a).getD (i/4) 0/2^(8*(i%4))%256:Nat)).flatMap u8c⟩] [];refine lN (kQ (lL hs [.m 15 5] (lIn 16 ((i:Nat)+1) (i+1) ?_)));refine lL hs [.m 5 16] (lD ?_);intro a_ ka;refine ⟨_,_,?_,⟨i+1,(l).set (((((nb a)+7)/8:Nat)-1:Nat)-i:Nat) ((lim a).getD (i/4) 0/2^(8*(i%4))%256:Nat),h8,rfl,rfl,hs.to _ _,oM,zc,(set_from_top hll oM hg (byte_lim a i))⟩,ka.to _ kR⟩
 omega
theorem lowL_init {n m:Nat}(h:n<256^m):∀ j,j<(m+3)/4→(List.replicate ((m+3)/4) 0).getD j 0=lowL n (m-0) j:=fun j hj=>by
  rw[Nat.sub_zero,lowL_top h];simp[hj]
theorem lowL_next {l:List Nat}{n m i x:Nat}(hi:i<m)(hl:l.length=(m+3)/4)(hv:∀ j,j<(m+3)/4→l.getD j 0=lowL n (m-i) j)(hx:x=lowL n (m-1-i) ((m-1-i)/4)) :
    ∀ j,j<(m+3)/4→(l.set ((m-1-i)/4) x).getD j 0=lowL n (m-(i+1)) j:=by
  intro j hj;rw[show m-(i+1)=m-1-i by omega]
  by_cases e:j=(m-1-i)/4
  · subst e
    have:(m-1-i)/4<l.length:=by omega
    simp[this,hx]
  · rw[lowL_step,if_neg e,show m-1-i+1=m-i by omega,←hv j hj]
    simp only[List.getD_eq_getElem?_getD]
    rw[List.getElem?_set_ne (Ne.symm e)]
theorem from_or {n k:Nat}:lowL n (k+1) (k/4) ||| (n/256^k%256)*2^(8*(k%4))=lowL n k (k/4):=by rw[lowL_step n k (k/4),if_pos rfl]
theorem shl_fit32 {b k:Nat}(hb:b<256):b*2^(8*(k%4))<4294967296:=by
  have:k%4=0∨k%4=1∨k%4=2∨k%4=3:=by omega
  rcases this with e|e|e|e<;>rw[e]<;>omega
theorem from_fin {l:List Nat}{n m:Nat}(hn:n<256^m)(hl:l.length=(m+3)/4)(hv:∀ j,j<(m+3)/4→l.getD j 0=lowL n (m-m) j):bval 4294967296 l=n∧Ld l:=by
  constructor
  · rw[←nval_bval]
    refine nval_of_digits l n (fun j hj=>by rw[hv j oM,Nat.sub_self,lowL_zero]) ?_;refine Nat.lt_of_lt_of_le hn ?_;rw[hl,show (256:Nat)=2^8 by rfl,show (4294967296:Nat)=2^32 by rfl,←Nat.pow_mul,←Nat.pow_mul];exact Nat.pow_le_pow_right oM oM
  · intro x hx
    obtain ⟨j,hj,rfl⟩:=List.mem_iff_getElem.1 hx;have:=hv j oM;have e:l[j]=l.getD j 0:=by simp[hj]
    rw[e,this];exact lowL_lt _ _ _
theorem rNatFrom (n m:Nat)(A:Option Addr)(cap:Nat)(hc:m≤cap)(hm:m≤1099511627776)(hn:n<256^m)(w:World)(h:Hp)(g:G w h)(hA:SlO 1 u8c 0 h A (byt n m)):CR 83 #[.slice A m cap] w h (fun v h1=>RN h1 v n):=by
 have hs:=((sS g).aS hA);have hbl:=byt_len n m;refine go Tryz.func83 [(0,qS A m cap)] rfl (cSL (lL hs [.v 2 (sZ)] (lNS (lL hs [.m 6 0,.v 7 (nV m)] (lIn 8 ((m:Nat)+3) (m+3) ?_)))));refine lV 9 (nV ((m+3)/4)) ?_ (hr:=rint (opQuo (t:=3) (u:=3) (x:=.tmp 8) (y:=.const (iV 4)) (k:=.i64) (a:=((m+3:Nat):Int)) (b:=(4:Int)) kR kR kR oM _) (quoI64 (m+3) 4 oM));refine lK 10 151 ((m+3)/4) 1 4 (uW 0) u32c 0 hs (fun b1 w2 h3 hs=>?_);have hl4:(List.replicate ((m+3)/4) 0).length=((m+3)/4):=by simp
 refine lL hs [.m 3 10] (lN (cQ (cSL (lL hs [.v 4 (iV 0)] (lN (kZ ?_))))));refine cTo _ (CG.loop (fun μ_ Γ w_=>∃ (i:Nat) (l:List Nat) (h_:Hp),μ_=m-i∧Γ=[(0,qS A m cap),(2,sZ),(3,qS (sB b1) ((m+3)/4) ((m+3)/4)),(4,nV i)]∧SS w h w_ h_ [⟨b1,151,(l).flatMap u32c⟩] [] [fun h_=>SlO 1 u8c 0 h_ A (byt n m)]∧i≤m∧l.length=(m+3)/4∧(∀ j,j<(m+3)/4→l.getD j 0=lowL n (m-i) j)) _ ⟨0,List.replicate ((m+3)/4) 0,h3,rfl,rfl,hs.to _ _,Nat.zero_le _,hl4,(lowL_init hn)⟩ ?_);rintro _ _ w5 ⟨i,l,h6,hm7,rfl,hs,hi,hll,hv⟩;refine cQ (cSL (lL hs [.m 11 4,.m 12 0,.v 13 (nV m)] ?_));cases hb8:(decide ((i:Int)<(m:Int)))
 ·
  have phb8:=oF hb8;refine lB 14 hb8 (lN (cIF (CG.exit ?_)))
  show CG _ _ _ _ _ _ _ _
  refine cSL (lL hs [.m 42 3] ?_);have him:i=m:=by omega
  rw[him] at hv
  obtain ⟨hf1,hf2⟩:=from_fin hn hll hv;obtain ⟨h9,hs,sg10,lo11,bc12⟩:=hs.pub 0;replace hs:=(hs.to [] []).aS (SlO.of_flat (sz:=1) (f:=u32c) (d:=0) (b:=b1) (o:=0) (l:=l) (fun _=>rfl) sg10);refine lC 43 hs (rTrim (sB b1) ((m+3)/4) l ((m+3)/4) hll oM oM _ _ hs.g hs.f.1) ?_;rintro _ _ _ hs rfl;exact lL hs [.m 2 43] (lN (kX (hs.ret [] (qS (sB b1) (tl l ((m+3)/4)) ((m+3)/4)) (RN.trim hf2 hf1 hll oM hs.f.1))))
 have phb8:=oT hb8;refine lB 14 hb8 (lN (cIT (cK (cQ (kZ (cSL (lL hs [.m 17 0,.v 18 (nV m)] (lIn 19 ((m:Nat)-1) (m-1) ?_))))))));refine lL hs [.m 20 4] (lIn 21 ((m-1:Nat)-(i:Nat)) ((m-1)-i) ?_);refine lL hs [.m 5 21] (lN (cR 19 [] mixed hs al_nil ?_));refine eV 0 22 (qS (sB b1) ((m+3)/4) ((m+3)/4)) (eV 1 23 (nV ((m-1)-i)) (eV 2 24 (nV (((m-1)-i)/4)) ?_ (hv:=fun _=>rint (opQuo (t:=3) (u:=3) (x:=.tmp 23) (y:=.const (iV 4)) (k:=.i64) (a:=(((m-1)-i:Nat):Int)) (b:=(4:Int)) kR kR kR oM _) (quoI64 ((m-1)-i) 4 oM))));refine eV 3 25 (qS (sB b1) ((m+3)/4) ((m+3)/4)) (eV 4 26 (nV ((m-1)-i)) (eV 5 27 (nV (((m-1)-i)/4)) ?_ (hv:=fun _=>rint (opQuo (t:=3) (u:=3) (x:=.tmp 26) (y:=.const (iV 4)) (k:=.i64) (a:=(((m-1)-i:Nat):Int)) (b:=(4:Int)) kR kR kR oM _) (quoI64 ((m-1)-i) 4 oM))));refine eX 6 28 (sB b1) ((m+3)/4) ((m+3)/4) 1 (((m-1)-i)/4:Nat) (((m-1)-i)/4:Nat) rfl (eQ 7 29 0 l u32c 1 0 (((m-1)-i)/4:Nat) (mW ((l).getD (((m-1)-i)/4:Nat) 0)) hs oM (eV 8 30 (qS A m cap) (eV 9 31 (nV i) (eX 10 32 A m cap 1 (i:Nat) i ((hs.f.1).ok oM) ?_))));have hvk:=hv ((m-1-i)/4) oM;have hor:l.getD ((m-1-i)/4) 0 ||| (n/256^(m-1-i)%256)*2^(8*((m-1-i)%4))=lowL n (m-1-i) ((m-1-i)/4):=by rw[hvk,show m-i=m-1-i+1 by omega];exact from_or
 have hlt:l.getD ((m-1-i)/4) 0<4294967296:=by rw[hvk];exact lowL_lt _ _ _
 have hvk:=hv ((m-1-i)/4) oM;have hor:l.getD ((m-1-i)/4) 0 ||| (n/256^(m-1-i)%256)*2^(8*((m-1-i)%4))=lowL n (m-1-i) ((m-1-i)/4):=by rw[hvk,show m-i=m-1-i+1 by omega];exact from_or
 have hlt:l.getD ((m-1-i)/4) 0<4294967296:=by rw[hvk];exact lowL_lt _ _ _
 refine eHe 11 33 (.int .u8 ((byt n m).getD i 0:Nat)) hs ((hs.f.1).el i oM) (by rw[byt_get n m _ oM]) (eV 12 34 (mW (n/256^(m-1-i)%256)) ?_ (hv:=fun _=>rT (((n/256^(m-1-i)%256:Nat):Int)) kR (fitU32 oM oM)));refine eV 13 35 (nV ((m-1)-i)) (eV 14 36 (nV (((m-1)-i)%4)) ?_ (hv:=fun _=>rint (opRem (t:=3) (u:=3) (x:=.tmp 35) (y:=.const (iV 4)) (k:=.i64) (a:=(((m-1)-i:Nat):Int)) (b:=(4:Int)) kR kR kR oM _) (tmodNat ((m-1)-i) 4)));refine eIn 15 37 (8*(((m-1)-i)%4:Nat)) (8*(((m-1)-i)%4:Nat)) (eV 16 38 (mV (8*(((m-1)-i)%4:Nat))) ?_ (hv:=fun _=>rU (((8*(((m-1)-i)%4:Nat):Nat):Int)) kR (fitU64 oM oM)));refine eV 17 39 (mW ((n/256^(m-1-i)%256)*2^(8*((m-1-i)%4)))) ?_ (hv:=fun _=>opShlU32 (t:=151) (u:=152) (x:=.tmp 34) (y:=.tmp 38) (ky:=.u64) (a:=n/256^(m-1-i)%256) (n:=8*((m-1-i)%4)) kR kR kR oM (shl_fit32 oM) _);refine eV 18 40 (mW (lowL n (m-1-i) ((m-1-i)/4))) ?_ (hv:=fun _=>rint (opOr32 (t:=151) (u:=151) (x:=.tmp 29) (y:=.tmp 39) (a:=l.getD ((m-1-i)/4) 0) (b:=(n/256^(m-1-i)%256)*2^(8*((m-1-i)%4))) kR kR kR hlt (shl_fit32 oM) _) (congrArg Int.ofNat hor));refine eD0 hs (fun _ zb hs=>tX 19 41 (sB b1) ((m+3)/4) ((m+3)/4) 1 (((m-1)-i)/4:Nat) (((m-1)-i)/4:Nat) rfl (tW 20 0 l u32c 1 (((m-1)-i)/4:Nat) (lowL n (m-1-i) ((m-1-i)/4):Nat) hs oM (fun _ hs=>?_)));have za:((l).set (((m-1)-i)/4:Nat) (lowL n (m-1-i) ((m-1-i)/4):Nat)).length=((m+3)/4):=by rw[List.length_set];exact hll
 replace hs:=hs.to [⟨b1,151,((l).set (((m-1)-i)/4:Nat) (lowL n (m-1-i) ((m-1-i)/4):Nat)).flatMap u32c⟩] [];refine tN (kQ (lL hs [.m 15 4] (lIn 16 ((i:Nat)+1) (i+1) ?_)));refine lL hs [.m 4 16] (lD ?_);intro a_ ka;refine ⟨_,_,?_,⟨i+1,(l).set (((m-1)-i)/4:Nat) (lowL n (m-1-i) ((m-1-i)/4):Nat),zb,rfl,rfl,hs.to _ _,oM,za,(lowL_next oM hll hv rfl)⟩,ka.to _ kR⟩
 omega
def qabs (q:Rat):Rat:=if q.num<0 then -q else q
theorem qabs_num (q:Rat):(qabs q).num=((iabs q.num:Nat):Int):=by
  unfold qabs iabs;split
  · rw[Rat.neg_num];omega
  · omega
theorem qabs_den (q:Rat):(qabs q).den=q.den:=by
  unfold qabs;split
  · rw[Rat.neg_den]
  · rfl
theorem LQ.ln {q:Rat}(h:LQ 100000000 q):(lim (iabs q.num)).length≤300000000:=Nat.le_trans (lim_wds _) (by have:=h.1;omega)
theorem LQ.ld {q:Rat}(h:LQ 100000000 q):(lim q.den).length≤300000000:=Nat.le_trans (lim_wds _) (by have:=h.2;omega)
theorem nl {k:Nat}{q:Rat}(h:LQ k q)(hk:k≤100000000:=by omega):(lim (iabs q.num)).length≤300000000:=LQ.ln (h.mono hk)
theorem nD {k:Nat}{q:Rat}(h:LQ k q)(hk:k≤100000000:=by omega):(lim q.den).length≤300000000:=LQ.ld (h.mono hk)
theorem LQ.abs {k:Nat}{q:Rat}(h:LQ k q):LQ k (qabs q):=⟨by rw[qabs_num];exact h.1,by rw[qabs_den];exact h.2⟩
theorem LQ.sub {k l:Nat}{a b:Rat}(ha:LQ k a)(hb:LQ l b):LQ (k+l+1) (a-b):=by rw[Rat.sub_eq_add_neg];exact ha.add hb.neg
theorem LQ.inv {k:Nat}{q:Rat}(h:LQ k q):LQ k q⁻¹:=by
  by_cases hz:q.num=0
  · have:q=0:=by rw[←Rat.num_eq_zero];exact hz
    subst this;rw[Rat.inv_zero];exact h
  · obtain ⟨h1,h2⟩:=rat_inv q hz
    exact ⟨by rw[h1,iabs_sgn];exact h.2,by rw[h2];exact h.1⟩
theorem LQ.div {k l:Nat}{a b:Rat}(ha:LQ k a)(hb:LQ l b):LQ (k+l) (a/b):=by rw[Rat.div_def];exact ha.mul hb.inv
theorem LQ.int {z:Int}(h0 : -9223372036854775808≤z)(h1:z≤9223372036854775807):LQ 1 (z:Rat):=⟨by rw[Rat.num_intCast];exact wds_len_lit.2 (by unfold iabs;omega),by rw[Rat.den_intCast];exact wds_len_lit.2 oM⟩
theorem LQ.lit {z:Int}(h : -9223372036854775808≤z∧z≤9223372036854775807):LQ 1 (z:Rat):=LQ.int h.1 h.2
def dotq (a b:List Rat):Nat→Rat
  | 0=>0
  | k+1=>dotq a b k+a.getD k 0*b.getD k 0
theorem rNatDivS (a:Nat)(A:Option Addr)(c:Nat)(hc:(lim a).length≤c)(b:Nat)(D:Option Addr)(d:Nat)(hd:(lim b).length≤d)(hLa:(lim a).length≤3000000000)(hLb:(lim b).length≤1)(hb:0<b)(w:World)(h:Hp)(g:G w h)(hA:S3 A (lim a) h)(hD:S3 D (lim b) h):CR 88 #[.slice A (lim a).length c,.slice D (lim b).length d] w h (fun v h1=>∃ v1 v2,v=.tuple #[v1,v2]∧RN h1 v1 (a/b)∧RN h1 v2 (a%b)):=by
  have hp:=lim_pos.2 hb
  rcases Nat.lt_or_ge a b with h1|h1
  · exact rNatDivLt a A c hc b D d hd hLa oM h1 w h g hA hD
  · exact rNatDivOne a A c hc b D d hd hLa oM h1 oM w h g hA hD
theorem rNatGcdS (a:Nat)(A:Option Addr)(c:Nat)(hc:(lim a).length≤c)(b:Nat)(D:Option Addr)(d:Nat)(hd:(lim b).length≤d)(hLa:(lim a).length≤3000000000)(hLb:(lim b).length≤1)(w:World)(h:Hp)(g:G w h)(hA:S3 A (lim a) h)(hD:S3 D (lim b) h):CR 87 #[.slice A ((lim a).length) c,.slice D ((lim b).length) d] w h (fun v h1=>RN h1 v (Nat.gcd a b)):=by
 have hs:=(((sS g).aS hA).aS hD);refine go Tryz.func87 [(0,qS A ((lim a).length) c),(1,qS D ((lim b).length) d)] rfl (cSL (lL hs [.v 4 (sZ)] (lN (cQ (kZ ?_)))));replace hs:=hs.aS hs.f.1;replace hs:=hs.aS hs.f.r.1;refine cTo _ (CG.loop (fun μ_ Γ w_=>∃ (x:Nat) (A1:Option Addr) (c1:Nat) (y:Nat) (A2:Option Addr) (c2:Nat) (h_:Hp),μ_=y∧Γ=[(4,sZ),(0,qS A1 ((lim x).length) c1),(1,qS A2 ((lim y).length) c2)]∧SS w h w_ h_ [] [] [S3 A1 (lim x),S3 A2 (lim y),S3 D (lim b),S3 A (lim a)]∧(lim x).length≤c1∧(lim y).length≤c2∧(lim x).length≤3000000000∧(lim y).length≤1∧Nat.gcd x y=Nat.gcd a b) _ ⟨a,A,c,b,D,d,h,rfl,rfl,hs.to _ _,hc,hd,hLa,hLb,rfl⟩ ?_);rintro _ _ w1 ⟨x,A1,c1,y,A2,c2,h2,hm3,rfl,hs,hc1,hc2,hl1,hl2,hG⟩;refine cQ (cSL (lL hs [.m 7 1,.v 8 (nV ((lim y).length))] ?_));cases hb4:(decide ((0:Int)<(((lim y).length:Nat):Int)))
 ·
  have phb4:=oF hb4;refine lB 9 hb4 (lN (cIF (CG.exit ?_)))
  show CG _ _ _ _ _ _ _ _
  refine cSL (lL hs [.m 18 0,.m 4 18] (lN (kX ?_)));have hy0:y=0:=Nat.eq_zero_of_not_pos (fun h_=>by have:=lim_pos.2 h_;omega);exact hs.ret [] (qS A1 ((lim x).length) c1) (by rw[←hG,hy0,Nat.gcd_zero_right];exact ⟨A1,c1,rfl,hc1,hs.f.1⟩)
 have phb4:=oT hb4;refine lB 9 hb4 (lN (cIT (cK (kZ (cSL (lL hs [.m 11 0,.m 12 1] (lC 13 hs (rNatDivS x A1 c1 hc1 y A2 c2 hc2 oM oM (lim_pos.1 oM) _ _ hs.g hs.f.1 hs.f.2.1) ?_)))))));rintro _ w5 h6 hs ⟨_,_,rfl,⟨Aq,cq,rfl,hcq,hq⟩,⟨Ar,cr,rfl,hcr,hr⟩⟩;replace hs:=hs.aS hr;have hmd:=Nat.mod_lt x (lim_pos.1 (show 0<(lim y).length by omega));have hml:=lim_len_mono (show x%y≤y by omega);refine lL hs [.m 10 13,.v 14 (qS Aq (lim (x/y)).length cq),.v 15 (qS Ar ((lim (x%y)).length) cr),.m 5 14,.m 6 15] (lNS (lL hs [.m 16 1,.m 0 16] (lN (kQ (lL hs [.m 17 6,.m 1 17] (lD ?_))))));intro a_ ka;replace hs:=((hs.tl.tl.tl.aS hs.f.1).aS hs.f.r.1);refine ⟨_,_,?_,⟨y,A2,c2,x%y,Ar,cr,h6,rfl,rfl,hs.to _ _,hc2,hcr,oM,oM,(by rw[gcd_mod_swapL];exact hG)⟩,ka.to _ kR⟩
 omega
theorem rNatGcdES (a:Nat)(A:Option Addr)(c:Nat)(hc:(lim a).length≤c)(b:Nat)(D:Option Addr)(d:Nat)(hd:(lim b).length≤d)(q:Nat)(hq:q=Nat.gcd a b)(hLa:(lim a).length≤3000000000)(hLb:(lim b).length≤1)(w:World)(h:Hp)(g:G w h)(hA:S3 A (lim a) h)(hD:S3 D (lim b) h):CR 87 #[.slice A (lim a).length c,.slice D (lim b).length d] w h (fun v h1=>RN h1 v q):=by
  subst hq;exact rNatGcdS a A c hc b D d hd hLa hLb w h g hA hD
theorem lim_small1 {z:Int}(h0 : -4294967296<z)(h1:z<4294967296):(lim (iabs z)).length≤1:=lim_len_le (by unfold iabs;omega)
theorem rMakeS (x:Int)(A:Option Addr)(c:Nat)(hc:(lim (iabs x)).length≤c)(hLx:(lim (iabs x)).length≤2000000000)(y:Int)(D:Option Addr)(d:Nat)(hd:(lim (iabs y)).length≤d)(hLy:(lim (iabs y)).length≤1)(hd0:y≠0)(w:World)(h:Hp)(g:G w h)(hA:S3 A (lim (iabs x)) h)(hD:S3 D (lim (iabs y)) h):CR 47 #[.agg #[.bool (ineg x),.slice A ((lim (iabs x)).length) c],.agg #[.bool (ineg y),.slice D ((lim (iabs y)).length) d]] w h (fun v h1=>RQ h1 v (mkR x y)):=by
 have hs:=(((sS g).aS hA).aS hD);obtain ⟨hm1,hm2,hq0⟩:=mkR_parts x y hd0;obtain ⟨q,hq⟩:∃ q,q=Nat.gcd (iabs x) (iabs y):=⟨_,rfl⟩;rw[←hq] at hm1 hm2 hq0
 have hql:(lim q).length≤1:=lim_len_le' (by rw[hq];exact Nat.gcd_le_right _ (by unfold iabs;omega)) hLy;refine go Tryz.func47 [(0,.agg #[.bool (ineg x),qS A ((lim (iabs x)).length) c]),(1,.agg #[.bool (ineg y),qS D ((lim (iabs y)).length) d])] rfl (cSL (lA 2 54 ([.bool (ineg x),qS A ((lim (iabs x)).length) c]) hs (fun b1 w2 h3 hs=>lA 3 54 ([.bool (ineg y),qS D ((lim (iabs y)).length) d]) hs (fun b4 w5 h6 hs=>lA 4 56 ([qF,sZ,sZ]) hs (fun b7 w8 h9 hs=>lNS (lL hs [.v 10 (qP b1 1),.o 11 (qS A ((lim (iabs x)).length) c) 2 1 1,.v 12 (qP b4 1),.o 13 (qS D ((lim (iabs y)).length) d) 1 1 1] (lC 14 hs (rNatGcdES (iabs x) A c hc (iabs y) D d hd q hq oM oM _ _ hs.g hs.f.2.1 hs.f.1) ?_)))))));rintro _ _ _ hs ⟨zf,zg,rfl,zc,zk⟩;replace hs:=hs.aS zk;refine lL hs [.m 5 14] (lNS (lL hs [.v 16 (qP b1 1),.o 17 (qS A ((lim (iabs x)).length) c) 2 1 1,.m 18 5] (lC 19 hs (rNatDivS (iabs x) A c hc q zf zg zc oM oM hq0 _ _ hs.g hs.f.r.1 hs.f.1) ?_)));rintro _ _ _ hs ⟨_,v2_A16,rfl,⟨zi,zj,rfl,zl,zm⟩,-⟩;replace hs:=hs.aS zm;refine lL hs [.m 15 19,.v 20 (qS zi ((lim ((iabs x)/q)).length) zj),.v 21 v2_A16,.m 6 20,.m 7 21] (lNS (lL hs [.v 23 (qP b4 1),.o 24 (qS D ((lim (iabs y)).length) d) 1 1 1,.m 25 5] (lC 26 hs (rNatDivS (iabs y) D d hd q zf zg zc oM oM hq0 _ _ hs.g hs.f.r.1 hs.f.2.1) ?_)));rintro _ _ _ hs ⟨_,v2_A22,rfl,⟨za,zb,rfl,zn,zo⟩,-⟩;replace hs:=hs.aS zo;refine lL hs [.m 22 26,.v 27 (qS za ((lim ((iabs y)/q)).length) zb),.v 28 v2_A22,.m 8 27,.m 9 28] (lNS (lL hs [.v 29 (pB b1),.o 30 (.bool (ineg x)) 2 0 1,.v 31 (pB b4),.o 32 (.bool (ineg y)) 1 0 1,.v 33 (.bool ((ineg x) != (ineg y))),.m 34 6] (lC 35 hs (rI ((ineg x) != (ineg y)) ((iabs x)/q) zi zj zl _ _ hs.g hs.f.2.1) ?_)));rintro _ _ _ hs ⟨zd,ze,rfl,zp,zq⟩;replace hs:=hs.aS zq;exact lL hs [.m 36 8,.v 37 (.agg #[.bool (ineg (sgn ((ineg x) != (ineg y)) ((iabs x)/q))),qS zd ((lim (iabs (sgn ((ineg x) != (ineg y)) ((iabs x)/q)))).length) ze,qS za ((lim ((iabs y)/q)).length) zb])] (lP 0 0 ([.bool (ineg (sgn ((ineg x) != (ineg y)) ((iabs x)/q))),qS zd ((lim (iabs (sgn ((ineg x) != (ineg y)) ((iabs x)/q)))).length) ze,qS za ((lim ((iabs y)/q)).length) zb]) hs (fun _ hs=>lN (kX (hs.ret [(0,0,3)] (.agg #[.bool (ineg (sgn ((ineg x) != (ineg y)) ((iabs x)/q))),qS zd ((lim (iabs (sgn ((ineg x) != (ineg y)) ((iabs x)/q)))).length) ze,qS za ((lim ((iabs y)/q)).length) zb]) (by unfold RQ;rw[hm1,hm2];exact ⟨_,_,_,_,rfl,zp,zn,hs.f.1,hs.f.2.1⟩)))))
theorem rOverS (x y:Int)(hy0:y≠0)(h0 : -9223372036854775808≤x)(h1:x<9223372036854775808)(h2 : -4294967296<y)(h3:y<4294967296)(w:World)(h:Hp)(g:G w h):CR 23 #[iV x,iV y] w h (fun v h1=>RQ h1 v (mkR x y)):=by
 have hs:=sS g;have hx_:=lim_small h0 h1;have hy_:=lim_small1 h2 h3;refine go Tryz.func23 [(0,iV x),(1,iV y)] rfl (cSL (lA 4 56 ([qF,sZ,sZ]) hs (fun b1 w2 h3 hs=>lNS (lL hs [.m 5 0] (lC 6 hs (rIntOf x oM oM _ _ hs.g) ?_)))));rintro _ w8 h9 hs ⟨A4,c5,rfl,hc6,hA7⟩;replace hs:=hs.aS hA7;refine lL hs [.m 7 1] (lC 8 hs (rIntOf y oM oM _ _ hs.g) ?_);rintro _ _ _ hs ⟨zl,zm,rfl,ze,zf⟩;replace hs:=hs.aS zf;refine lC 9 hs (rMakeS x A4 c5 hc6 oM y zl zm ze oM hy0 _ _ hs.g hs.f.2.1 hs.f.1) ?_;rintro _ _ _ hs ⟨za,zb,zc,zd,rfl,zg,zi,zj,zk⟩;replace hs:=hs.aP zj zk;exact lP 0 0 (rqx (mkR x y) za zb zc zd) hs (fun _ hs=>lN (kX (hs.ret [(0,0,3)] (rG (mkR x y) za zb zc zd) (by skip;exact ⟨_,_,_,_,rfl,zg,zi,hs.f.2.1,hs.f.1⟩))))
theorem hNat (a:Nat)(A:Option Addr)(c:Nat)(hc:(lim a).length≤c)(hl:(lim a).length≤300000000)(w:World)(h:Hp)(g:G w h)(hA:S3 A (lim a) h):CV 27 #[.slice A ((lim a).length) c] w h (nv a):=by
 have hs:=((sS g).aS hA);have hnb:=nb_len a;refine go Tryz.func27 [(0,qS A ((lim a).length) c)] rfl (cSL (lA 2 37 ([uV 0,eS]) hs (fun b1 w2 h3 hs=>lNS (lL hs [.m 3 0] (lC 4 hs (rNatBytes a A c hc oM _ _ hs.g hs.f.1) ?_)))));rintro _ w6 h7 hs ⟨A4,rfl,hA5⟩;replace hs:=hs.aS hA5;refine lC 5 hs (nFromB a ((nb a+7)/8) A4 ((nb a+7)/8) (nR _) oM (lt256 a) _ _ hs.g hs.f.1) ?_;rintro _ w8 h9 hs rfl;exact lP 0 0 (nc a) hs (fun _ hs=>lN (kX (hs.ret [(0,0,2)] (nv a) rfl)))
theorem hInt (z:Int)(A:Option Addr)(c:Nat)(hc:(lim (iabs z)).length≤c)(hl:(lim (iabs z)).length≤300000000)(w:World)(h:Hp)(g:G w h)(hA:S3 A (lim (iabs z)) h):CV 25 #[.agg #[.bool (ineg z),.slice A ((lim (iabs z)).length) c]] w h (iv z):=by
 have hs:=((sS g).aS hA);have hwl:=wds_lim (iabs z);refine go Tryz.func25 [(0,.agg #[.bool (ineg z),qS A ((lim (iabs z)).length) c])] rfl (cSL (lA 1 54 ([.bool (ineg z),qS A ((lim (iabs z)).length) c]) hs (fun b1 w2 h3 hs=>lA 2 39 ([qF,uV 0,eS]) hs (fun b4 w5 h6 hs=>lN (cQ (cR 6 [] mixed hs al_nil ?_))))));refine eV 0 3 (pB b1) (eO 1 4 [(1,0,1)] (.bool (ineg z)) hs (eV 2 5 (qP b1 1) (eO 3 6 [(1,1,1)] (qS A ((lim (iabs z)).length) c) hs (eC 4 7 hs (fun _ _ hs=>hNat (iabs z) A c hc (by first|exact hl|exact LQ.ld hq|omega) _ _ hs.g hs.f.1) ?_))));rintro _ _ _ w7 h8 hs rfl;refine eC 5 8 hs (fun _ _ hs=>wFrom (ineg z) (iabs z) oM _ _ hs.g) ?_;rintro _ _ _ w9 _ hs rfl;exact eD0 hs (fun _ _ hs=>tP 6 0 0 (ic (sgn (ineg z) (iabs z))) hs (fun _ hs=>tN (kX (hs.ret [(0,0,3)] (iv (sgn (ineg z) (iabs z))) (congrArg iv (sgn_self z))))))
theorem mkR_self (q:Rat):mkR q.num ((q.den:Nat):Int)=q:=by
  unfold mkR;rw[if_neg oM];show mkRat q.num q.den=q;rw[Rat.mkRat_self]
theorem hIn (q:Rat)(A1:Option Addr)(c1:Nat)(D1:Option Addr)(d1:Nat)(hc1:(lim (iabs q.num)).length≤c1)(hd1:(lim q.den).length≤d1)(hq:LQ 100000000 q)(w:World)(h:Hp)(g:G w h)(hA1:S3 A1 (lim (iabs q.num)) h)(hD1:S3 D1 (lim q.den) h)(tb:Tab h):CV 12 #[rG q A1 c1 D1 d1] w h (qv q):=by
 have hs:=((((sS g).aS hA1).aS hD1).aB tb);refine go Tryz.func12 [(0,rG q A1 c1 D1 d1)] rfl (cSL (lA 1 56 (rqx q A1 c1 D1 d1) hs (fun b1 w2 h3 hs=>lA 2 41 ([qF,uV 0,eS,uV 0,eS]) hs (fun b4 w5 h6 hs=>lN (cQ ?_)))));have hsr:=hs;refine cR 12 [⟨11,3,.cells (List.toArray [qF,uV 0,eS,uV 0,eS]) 41 (0,0)⟩] mixed hs (al_cons (alOk kR (fun _ _=>by kernel_rfl)) al_nil) (eV 0 6 (pB b1) (eO 1 7 [(1,0,2)] (.agg #[.bool (ineg q.num),qS A1 ((lim (iabs q.num)).length) c1]) hs (eV 3 9 (qP b1 2) (eO 4 10 [(1,2,1)] (qS D1 ((lim q.den).length) d1) hs (eC 2 8 hs (fun _ _ hs=>hInt q.num A1 c1 hc1 (LQ.ln hq) _ _ hs.g hs.f.r.1) ?_)))));rintro _ _ _ w7 h8 hs rfl;refine eC 5 11 hs (fun _ _ hs=>hNat q.den D1 d1 hd1 (by first|exact hl|exact LQ.ld hq|omega) _ _ hs.g hs.f.2.1) ?_;rintro _ _ _ w9 _ hs rfl;refine eC 6 12 hs (fun _ _ hs=>wFromN q.den _ _ hs.g) ?_;rintro _ _ _ _ _ hs rfl;refine eC 7 13 hs (fun _ _ hs=>fMake q.num (q.den:Int) (by have:=q.den_pos;omega) (by have:=hq.1;omega) (by show (wds q.den).length≤_;have:=hq.2;omega) _ _ hs.g hs.f.1) ?_;rintro _ _ _ _ _ hs rfl;exact eV 8 5 (.tuple #[qv (mkR q.num (q.den:Int)),qT]) (eV 9 14 (qv (mkR q.num (q.den:Int))) (eV 10 15 qT (eD1p [] hsr hs 41 [qF,uV 0,eS,uV 0,eS] (fun _ _ b17 hs=>tP 12 0 0 (qc (mkR q.num (q.den:Int))) hs (fun _ hs=>tV 13 4 qT (tNS (lL hs [.o 16 (qv (mkR q.num (q.den:Int))) 0 0 5] (lP 1 0 (qc (mkR q.num (q.den:Int))) hs (fun _ hs=>lN (kX (hs.ret [(1,0,5)] (qv (mkR q.num (q.den:Int))) (congrArg qv (mkR_self q)))))))))))))
theorem hInV (v:Value)(q:Rat)(hq:LQ 100000000 q)(w:World)(h:Hp)(g:G w h)(hv:RQ h v q)(tb:Tab h):CV 12 #[v] w h (qv q):=by
  obtain ⟨A,c,B,d,rfl,h1,h2,h3,h4⟩:=hv;exact hIn q A c B d h1 h2 hq w h g h3 h4 tb
theorem hOutNat (n:Nat)(hl:(wds n).length≤100000000)(w:World)(h:Hp)(g:G w h):CR 44 #[nv n] w h (fun v h1=>RN h1 v n):=by
 have hs:=sS g;have hnb:=nb_len64 n;refine go Tryz.func44 [(0,nv n)] rfl (cSL (lA 1 37 (nc n) hs (fun b1 w2 h3 hs=>lL hs [.v 2 (sZ)] (lNS (lL hs [.o 3 (nv n) 0 0 2] (lC 4 hs (nBytes n oM _ _ hs.g) ?_))))));rintro _ w6 h7 hs ⟨A4,rfl,hA5⟩;replace hs:=hs.aS hA5;refine lC 5 hs (rNatFrom n ((nb n+7)/8) A4 ((nb n+7)/8) (nR _) oM (lt256 n) _ _ hs.g hs.f.1) ?_;rintro _ _ _ hs ⟨A8,c9,rfl,za,zb⟩;replace hs:=hs.aS zb;exact lL hs [.m 2 5] (lN (kX (hs.ret [] (qS A8 ((lim n).length) c9) (⟨_,_,rfl,za,hs.f.1⟩))))
theorem sgn_sgn (z:Int):sgn (decide (z.sign<(0:Int))) (iabs z)=z:=by
  rcases Int.lt_trichotomy z 0 with h|h|h
  · rw[Int.sign_eq_neg_one_of_neg h];unfold sgn iabs;simp;omega
  · subst h;rfl
  · rw[Int.sign_eq_one_of_pos h];unfold sgn iabs;simp;omega
theorem hOutInt (z:Int)(hl:(wds (iabs z)).length≤100000000)(w:World)(h:Hp)(g:G w h):CR 42 #[iv z] w h (fun v h1=>RI h1 v z):=by
 have hs:=sS g;refine go Tryz.func42 [(0,iv z)] rfl (cSL (lA 1 39 (ic z) hs (fun b1 w2 h3 hs=>lA 2 54 ([qF,sZ]) hs (fun b4 w5 h6 hs=>lN (cQ (cR 7 [] mixed hs al_nil ?_))))));refine eO 0 3 [(1,0,3)] (iv z) hs (eO 3 6 [(1,0,3)] (iv z) hs (eC 1 4 hs (fun _ _ hs=>wSign z oM _ _ hs.g) ?_));rintro _ _ _ w7 h8 hs rfl;refine eV 2 5 (.bool (decide ((z.sign:Int)<(0:Int)))) (eC 4 7 hs (fun _ _ hs=>wAbs z _ _ hs.g) ?_);rintro _ _ _ w9 _ hs rfl;refine eC 5 8 hs (fun _ _ hs=>hOutNat (iabs z) (by first|exact hq.2|omega) _ _ hs.g) ?_;rintro _ _ _ _ _ hs ⟨zg,zi,rfl,zc,zd⟩;replace hs:=hs.aS zd;refine eC 6 9 hs (fun _ _ hs=>rI (decide ((z.sign:Int)<(0:Int))) (iabs z) zg zi zc _ _ hs.g hs.f.1) ?_;rintro _ _ _ _ _ hs ⟨za,zb,rfl,ze,zf⟩;replace hs:=hs.aS zf;exact eD0 hs (fun _ _ hs=>tP 7 0 0 ([.bool (ineg (sgn (decide ((z.sign:Int)<(0:Int))) (iabs z))),qS za ((lim (iabs (sgn (decide ((z.sign:Int)<(0:Int))) (iabs z)))).length) zb]) hs (fun _ hs=>tN (kX (hs.ret [(0,0,2)] (.agg #[.bool (ineg (sgn (decide ((z.sign:Int)<(0:Int))) (iabs z))),qS za ((lim (iabs (sgn (decide ((z.sign:Int)<(0:Int))) (iabs z)))).length) zb]) (by rw[sgn_sgn] at *;exact ⟨_,_,rfl,ze,hs.f.1⟩)))))
theorem hOut (q:Rat)(hq:LQ 100000000 q)(w:World)(h:Hp)(g:G w h):CR 21 #[qv q] w h (fun v h1=>RQ h1 v q):=by
 have hs:=sS g;refine go Tryz.func21 [(0,qv q)] rfl (cSL (lA 1 41 (qc q) hs (fun b1 w2 h3 hs=>lA 2 56 ([qF,sZ,sZ]) hs (fun b4 w5 h6 hs=>lN (cQ (cR 7 [] mixed hs al_nil ?_))))));refine eO 0 3 [(1,0,5)] (qv q) hs (eO 3 6 [(1,0,5)] (qv q) hs (eC 1 4 hs (fun _ _ hs=>fNum q _ _ hs.g) ?_));rintro _ _ _ w7 h8 hs rfl;refine eC 2 5 hs (fun _ _ hs=>hOutInt q.num hq.1 _ _ hs.g) ?_;rintro _ _ _ _ _ hs ⟨A9,za,rfl,zd,ze⟩;replace hs:=hs.aS ze;refine eC 4 7 hs (fun _ _ hs=>fDen q hq _ _ hs.g) ?_;rintro _ _ _ _ _ hs rfl;refine eC 5 8 hs (fun _ _ hs=>hOutNat q.den (by first|exact hq.2|omega) _ _ hs.g) ?_;rintro _ _ _ _ _ hs ⟨zb,zc,rfl,zf,zg⟩;replace hs:=hs.aS zg;exact eV 6 9 (rG q A9 za zb zc) (eD0 hs (fun _ _ hs=>tP 7 0 0 (rqx q A9 za zb zc) hs (fun _ hs=>tN (kX (hs.ret [(0,0,3)] (rG q A9 za zb zc) (⟨_,_,_,_,rfl,zd,zf,hs.f.2.1,hs.f.1⟩))))))
def sameQ (a b:Rat):Bool:=decide (a=b)
theorem sameQ_t {a b:Rat}(h1:cmpN (iabs a.num) (iabs b.num)=0)(h2:ineg a.num=ineg b.num)(h3:cmpN a.den b.den=0):true=sameQ a b:=by
  have e1:iabs a.num=iabs b.num:=by unfold cmpN at h1;split at h1;omega;split at h1;omega;omega
  have e3:a.den=b.den:=by unfold cmpN at h3;split at h3;omega;split at h3;omega;omega
  have e2:a.num=b.num:=by rw[←sgn_self a.num,←sgn_self b.num,e1,h2]
  symm
  exact decide_eq_true (Rat.ext e2 e3)
theorem cmpN_self (a:Nat):cmpN a a=0:=by simp[cmpN]
theorem sameQ_f {a b:Rat}(h:cmpN (iabs a.num) (iabs b.num)≠0∨ineg a.num≠ineg b.num∨cmpN a.den b.den≠0):false=sameQ a b:=by
  symm
  refine decide_eq_false ?_;rintro rfl
  rcases h with h|h|h
  · exact h (cmpN_self _)
  · exact h rfl
  · exact h (cmpN_self _)
theorem hSame (q r:Rat)(hq:LQ 100000000 q)(hr:LQ 100000000 r)(A1:Option Addr)(c1:Nat)(D1:Option Addr)(d1:Nat)(hc1:(lim (iabs r.num)).length≤c1)(hd1:(lim r.den).length≤d1)(w:World)(h:Hp)(g:G w h)(hA1:S3 A1 (lim (iabs r.num)) h)(hD1:S3 D1 (lim r.den) h):CV 41 #[qv q,rG r A1 c1 D1 d1] w h (.bool (sameQ q r)):=by
 have hs:=(((sS g).aS hA1).aS hD1);have hpd:0<(lim r.den).length:=lim_pos.2 r.den_pos;have hq1:=LQ.ln hq;have hq2:=LQ.ld hq;have hr1:=LQ.ln hr;have hr2:=LQ.ld hr;refine go Tryz.func41 [(0,qv q),(1,rG r A1 c1 D1 d1)] rfl (cSL (lA 2 41 (qc q) hs (fun b1 w2 h3 hs=>lA 3 56 (rqx r A1 c1 D1 d1) hs (fun b4 w5 h6 hs=>lL hs [.v 4 qF] (lNS (lL hs [.o 6 (qv q) 1 0 5] (lC 7 hs (hOut q hq _ _ hs.g) ?_)))))));rintro _ _ _ hs ⟨A7,c8,zd,ze,rfl,hc9,zk,zl,zm⟩;replace hs:=hs.aP zl zm;refine lA 5 56 ([qF,sZ,sZ]) hs (fun zc _ _ hs=>lP 0 0 (rqx q A7 c8 zd ze) hs (fun _ hs=>lN (cQ (cSL (lL hs [.v 8 (qP b4 2),.o 9 (qS D1 ((lim r.den).length) d1) 1 2 1,.v 10 (nV ((lim r.den).length))] ?_)))));have zf:((((lim r.den).length:Nat):Int) == (0:Int))=false:=(by simp;exact fun h=>Nat.lt_irrefl 0 (by rw[h] at hpd;exact hpd));have phb21:=neOfBeq zf;refine lB 11 zf (lN (cIF (cK (cSL (lL hs [.v 13 (pB zc),.v 14 (qP zc 1),.o 15 (qS A7 ((lim (iabs q.num)).length) c8) 0 1 1,.v 16 (pB b4),.v 17 (qP b4 1),.o 18 (qS A1 ((lim (iabs r.num)).length) c1) 1 1 1] (lC 19 hs (rNatCmp (iabs q.num) A7 c8 hc9 (iabs r.num) A1 c1 hc1 oM oM _ _ hs.g hs.f.2.1 hs.f.r.2.1) ?_))))));rintro _ _ _ hs rfl;cases za:((cmpN (iabs q.num) (iabs r.num):Int) == (0:Int))
 ·
  have zi:=neOfBeq za;refine lB 20 za (lL hs [.m 21 20] (lG 22 ?_));refine lG 23 (lG 24 (lG 25 (lG 26 (lG 27 (lG 28 (lL hs [.v 29 qF,.m 30 29] (lG 31 ?_)))))));exact lG 32 (lG 33 (lG 34 (lG 35 (lG 36 (lL hs [.v 37 qF,.m 4 37] (lN (kX (hs.ret [] qF (congrArg Value.bool (sameQ_f (by first|(left;assumption)|(right;right;assumption)|(right;left;exact beq_eq_false_iff_ne.1 ‹_›))))))))))))
 have zi:=eq_of_beq za;refine lB 20 za (lL hs [.m 21 20,.v 22 (pB zc),.v 23 (pB zc),.o 24 (.bool (ineg q.num)) 0 0 1,.v 25 (pB b4),.v 26 (pB b4),.o 27 (.bool (ineg r.num)) 1 0 1] ?_);cases zg:((ineg q.num) == (ineg r.num))
 ·
  refine lB 28 zg (lL hs [.v 29 qF,.m 30 29] (lG 31 ?_));exact lG 32 (lG 33 (lG 34 (lG 35 (lG 36 (lL hs [.v 37 qF,.m 4 37] (lN (kX (hs.ret [] qF (congrArg Value.bool (sameQ_f (by first|(left;assumption)|(right;right;assumption)|(right;left;exact beq_eq_false_iff_ne.1 ‹_›))))))))))))
 refine lB 28 zg (lL hs [.v 29 qT,.m 30 29,.v 31 (qP zc 2),.o 32 (qS zd ((lim q.den).length) ze) 0 2 1,.v 33 (qP b4 2),.o 34 (qS D1 ((lim r.den).length) d1) 1 2 1] (lC 35 hs (rNatCmp q.den zd ze zk r.den D1 d1 hd1 oM oM _ _ hs.g hs.f.1 hs.f.r.1) ?_));rintro _ _ _ hs rfl;cases zb:((cmpN q.den r.den:Int) == (0:Int))
 ·
  have zj:=neOfBeq zb;exact lB 36 zb (lL hs [.v 37 qF,.m 4 37] (lN (kX (hs.ret [] qF (congrArg Value.bool (sameQ_f (by first|(left;assumption)|(right;right;assumption)|(right;left;exact beq_eq_false_iff_ne.1 ‹_›))))))))
 have zj:=eq_of_beq zb;exact lB 36 zb (lL hs [.v 37 qT,.m 4 37] (lN (kX (hs.ret [] qT (congrArg Value.bool (sameQ_t aM (eq_of_beq ‹_›) aM))))))
theorem LQ.mkR {n d:Int}(hd:d≠0)(h0 : -9223372036854775808≤n)(h1:n≤9223372036854775807)(h2 : -9223372036854775808≤d)(h3:d≤9223372036854775807):LQ 1 (mkR n d):=by
  unfold Go.Proofs.YtceljehlpaclmaaGreatDoor.mkR
  have hp:0<iabs d:=by unfold iabs;omega
  obtain ⟨p1,p2,p3,p4⟩:=mkRat_parts (if d<0 then -n else n) (iabs d) hp;refine ⟨?_,?_⟩
  · rw[p1];refine wds_len_lit.2 (Nat.lt_of_le_of_lt (iabs_div_le _ _ p3) ?_)
    unfold iabs;split<;>omega
  · rw[p2];exact wds_len_lit.2 (Nat.lt_of_le_of_lt (Nat.div_le_self _ _) (by unfold iabs;omega))
theorem hIs (q:Rat)(z e:Int)(hq:LQ 100000000 q)(he:e≠0)(hz0 : -9223372036854775808≤z)(hz1:z<9223372036854775808)(he0 : -4294967296<e)(he1:e<4294967296)(w:World)(h:Hp)(g:G w h):CV 20 #[qv q,iV z,iV e] w h (.bool (sameQ q (mkR z e))):=by
 have hs:=sS g;have hb:LQ 100000000 (mkR z e):=(LQ.mkR he hz0 oM oM oM).mono oM;refine go Tryz.func20 [(0,qv q),(1,iV z),(2,iV e)] rfl (cSL (lA 3 41 (qc q) hs (fun b1 w2 h3 hs=>lL hs [.v 6 qF] (lN (cQ (cR 5 [] mixed hs al_nil ?_))))));refine eO 0 7 [(0,0,5)] (qv q) hs (eV 1 8 (iV z) (eV 2 9 (iV e) (eC 3 10 hs (fun _ _ hs=>rOverS z e oM oM oM oM oM _ _ hs.g) ?_)));rintro _ _ _ _ _ hs ⟨A4,c5,A8,c9,rfl,hc6,za,hA7,zb⟩;replace hs:=hs.aP hA7 zb;refine eC 4 11 hs (fun _ _ hs=>hSame q (mkR z e) hq hb A4 c5 A8 c9 hc6 za _ _ hs.g hs.f.2.1 hs.f.1) ?_;rintro _ _ _ _ _ hs rfl;exact eD0 hs (fun _ _ hs=>tV 5 6 (.bool (sameQ q (mkR z e))) (tN (kX (hs.ret [] (.bool (sameQ q (mkR z e))) rfl))))
def pick (n:Int)(m:Nat):Nat:=(n%(m:Int)).toNat
theorem pick_lt (n:Int)(m:Nat)(h:0<m):pick n m<m:=by
  unfold pick
  have h1:=Int.emod_nonneg n (show (m:Int)≠0 by omega);have h2:=Int.emod_lt_of_pos n (show (0:Int)<m by omega)
  omega
theorem pick_int (n:Int)(m:Nat)(h:0<m):((pick n m:Nat):Int)=n%(m:Int):=by
  unfold pick
  have h1:=Int.emod_nonneg n (show (m:Int)≠0 by omega)
  omega
theorem tmod_neg (n:Int)(m:Nat)(hm:0<m)(hn:n<0):(n%(m:Int)=0∧n.tmod (m:Int)=0)∨(0<n%(m:Int)∧n.tmod (m:Int)=n%(m:Int)-m):=by
  have b1:=Int.emod_nonneg n (show (m:Int)≠0 by omega);rw[Int.tmod_eq_emod]
  by_cases h:(m:Int)∣n
  · left
    rw[if_pos (.inr h)];have:=Int.emod_eq_zero_of_dvd h;exact ⟨this,by omega⟩
  · right
    have h2:¬(n%(m:Int)=0):=fun h'=>h (Int.dvd_of_emod_eq_zero h')
    rw[if_neg (by intro h';rcases h' with h'|h';omega;exact h h')];refine ⟨by omega,by simp⟩
def dDen (k:Nat):Nat:=match k with|0=>1|1=>1|2=>1|3=>2|4=>3|_=>4
theorem dDen_pos (k:Nat):0<dDen k:=by unfold dDen;split<;>omega
theorem dDen_le (k:Nat):dDen k≤4:=by unfold dDen;split<;>omega
def handRq (n:Int):Rat:=mkR ((pick n 41:Int)-20) (dDen (pick (n.tdiv 41) 6):Nat)
def smallq (n:Int):Rat:=mkR ((pick n 9:Int)-4) (((pick (n.tdiv 9) 2:Nat):Int)+1)
theorem tdiv_bd (n:Int)(m:Int)(hm:1<m)(hn0 : -9223372036854775808≤n)(hn1:n≤9223372036854775807) : -9223372036854775808≤n.tdiv m∧n.tdiv m≤9223372036854775807:=by
  have h1:(n.tdiv m).natAbs≤n.natAbs/2:=by
    rw[Int.natAbs_tdiv];exact Nat.div_le_div_left oM oM
  omega
theorem pick_neg {n:Int}{m:Nat}(hm:0<m)(h:n.tmod (m:Int)<0):n.tmod (m:Int)+m=((pick n m:Nat):Int):=by
  rw[pick_int n m hm]
  rcases Int.lt_or_le n 0 with hn|hn
  · rcases tmod_neg n m hm hn with ⟨h1,h2⟩|⟨h1,h2⟩<;>omega
  · rw[Int.tmod_eq_emod_of_nonneg hn] at h
    have:=Int.emod_nonneg n (show (m:Int)≠0 by omega)
    omega
theorem pick_nneg {n:Int}{m:Nat}(hm:0<m)(h:¬n.tmod (m:Int)<0):n.tmod (m:Int)=((pick n m:Nat):Int):=by
  rw[pick_int n m hm]
  rcases Int.lt_or_le n 0 with hn|hn
  · rcases tmod_neg n m hm hn with ⟨h1,h2⟩|⟨h1,h2⟩
    · omega
    · have:=Int.emod_lt_of_pos n (show (0:Int)<m by omega)
      omega
  · rw[Int.tmod_eq_emod_of_nonneg hn]
theorem tmod_bd (n:Int){m:Nat}(hm:0<m) : -(m:Int)<n.tmod (m:Int)∧n.tmod (m:Int)<m:=by
  have h1:=Int.tmod_lt_of_pos n (show (0:Int)<m by omega);have h2:=Int.lt_tmod_of_pos n (show (0:Int)<m by omega);exact ⟨h2,h1⟩
theorem hPick (n:Int)(m:Nat)(hm:0<m)(hm2:m<1000000)(w:World)(h:Hp)(g:G w h):CV 9 #[iV n,nV m] w h (nV (pick n m)):=by
 have hs:=sS g;obtain ⟨b1,b2⟩:=tmod_bd n hm;refine go Tryz.func9 [(0,iV n),(1,nV m)] rfl (cSL (lL hs [.v 4 (iV 0)] (lNS (lL hs [.m 5 0,.m 6 1] (lV 7 (iV (n.tmod (m:Nat))) ?_ (hr:=opRem (t:=3) (u:=3) (x:=.tmp 5) (y:=.tmp 6) (k:=.i64) (a:=n) (b:=(m:Nat)) kR kR kR oM _))))));refine lL hs [.m 0 7] (lN (cQ (cSL (lL hs [.m 8 0] ?_))));cases hb1:(decide ((n.tmod (m:Nat):Int)<(0:Int)))
 ·
  have phb1:=oF hb1;exact lB 9 hb1 (lN (cIF (cK (cSL (lL hs [.m 13 0,.m 4 13] (lN (kX (hs.ret [] (iV (n.tmod (m:Nat))) (congrArg (Value.int .i64) (pick_nneg hm aM))))))))))
 have phb1:=oT hb1;refine lB 9 hb1 (lN (cIT (kQ (lL hs [.m 10 0,.m 11 1] (lI 12 ((n.tmod (m:Nat))+(m:Nat)) ?_)))));exact lL hs [.m 0 12] (lNS (lL hs [.m 13 0,.m 4 13] (lN (kX (hs.ret [] (iV ((n.tmod (m:Nat))+(m:Nat))) (congrArg (Value.int .i64) (pick_neg hm aM)))))))
theorem index6_0 (w:World):(Instr.index 78 (.agg #[.int .i64 1,.int .i64 1,.int .i64 1,.int .i64 2,.int .i64 3,.int .i64 4]) (.int .i64 0)).run Tryz.prog w=.ok (.int .i64 1) w:=by kernel_rfl
theorem index6_1 (w:World):(Instr.index 78 (.agg #[.int .i64 1,.int .i64 1,.int .i64 1,.int .i64 2,.int .i64 3,.int .i64 4]) (.int .i64 1)).run Tryz.prog w=.ok (.int .i64 1) w:=by kernel_rfl
theorem index6_2 (w:World):(Instr.index 78 (.agg #[.int .i64 1,.int .i64 1,.int .i64 1,.int .i64 2,.int .i64 3,.int .i64 4]) (.int .i64 2)).run Tryz.prog w=.ok (.int .i64 1) w:=by kernel_rfl
theorem index6_3 (w:World):(Instr.index 78 (.agg #[.int .i64 1,.int .i64 1,.int .i64 1,.int .i64 2,.int .i64 3,.int .i64 4]) (.int .i64 3)).run Tryz.prog w=.ok (.int .i64 2) w:=by kernel_rfl
theorem index6_4 (w:World):(Instr.index 78 (.agg #[.int .i64 1,.int .i64 1,.int .i64 1,.int .i64 2,.int .i64 3,.int .i64 4]) (.int .i64 4)).run Tryz.prog w=.ok (.int .i64 3) w:=by kernel_rfl
theorem index6_5 (w:World):(Instr.index 78 (.agg #[.int .i64 1,.int .i64 1,.int .i64 1,.int .i64 2,.int .i64 3,.int .i64 4]) (.int .i64 5)).run Tryz.prog w=.ok (.int .i64 4) w:=by kernel_rfl
theorem index6 (k:Nat)(h:k<6)(w:World):(Instr.index 78 (.agg #[.int .i64 1,.int .i64 1,.int .i64 1,.int .i64 2,.int .i64 3,.int .i64 4]) (.int .i64 (k:Int))).run Tryz.prog w=.ok (.int .i64 ((dDen k:Nat):Int)) w:=by
  have:k=0∨k=1∨k=2∨k=3∨k=4∨k=5:=by omega
  rcases this with rfl|rfl|rfl|rfl|rfl|rfl
  · exact index6_0 w
  · exact index6_1 w
  · exact index6_2 w
  · exact index6_3 w
  · exact index6_4 w
  · exact index6_5 w
theorem idx6 {Γ:Env}{o:Oper}{x y:Operand}(k:Nat)(h:k<6)(ho:o.op=.index 78 x y)(hx:ev Γ x=.agg #[.int .i64 1,.int .i64 1,.int .i64 1,.int .i64 2,.int .i64 3,.int .i64 4])(hy:ev Γ y=.int .i64 (k:Nat))(w:World) :
    (execOp (ev Γ) o).run Tryz.prog w=.ok (.value (.int .i64 (dDen k:Nat))) w:=by
  unfold execOp;simp only[ho];rw[hx,hy,Sem.run_bind,index6 k h w];rfl
theorem hR (n:Int)(h0 : -9223372036854775808≤n)(h1:n≤9223372036854775807)(w:World)(h:Hp)(g:G w h):CR 11 #[iV n] w h (fun v h1=>RQ h1 v (handRq n)):=by
 have hs:=sS g;obtain ⟨t0,t1⟩:=tdiv_bd n 41 oM h0 h1;have l1:=pick_lt n 41 oM;have l2:=pick_lt (n.tdiv 41) 6 oM;have p1:=dDen_pos (pick (n.tdiv 41) 6);have p2:=dDen_le (pick (n.tdiv 41) 6);refine go Tryz.func11 [(0,iV n)] rfl (cSL (lA 2 56 ([qF,sZ,sZ]) hs (fun b1 w2 h3 hs=>lNS (lL hs [.m 3 0] (lC 4 hs (hPick (n) 41 oM oM _ _ hs.g) ?_)))));rintro _ w5 h6 hs rfl;have lp4:=pick_lt (n) 41 oM;refine lI 5 ((pick (n) 41:Nat)-20) (lL hs [.v 6 (.agg #[iV 1,iV 1,iV 1,iV 2,iV 3,iV 4]),.m 7 0] (lV 8 (iV (n.tdiv 41)) ?_ (hr:=rS ((n.tdiv 41)) kR (fitI64 oM oM))));refine lC 9 hs (hPick (n.tdiv 41) 6 oM oM _ _ hs.g) ?_;rintro _ w8 h9 hs rfl;have lp7:=pick_lt (n.tdiv 41) 6 oM;refine lV 10 (nV (dDen (pick (n.tdiv 41) 6))) ?_ (hr:=idx6 (x:=.tmp 6) (y:=.tmp 9) (pick (n.tdiv 41) 6) l2 kR kR kR _);refine lC 11 hs (rOverS ((pick (n) 41:Nat)-20) (dDen (pick (n.tdiv 41) 6):Nat) oM oM oM oM oM _ _ hs.g) ?_;rintro _ _ _ hs ⟨za,zb,zc,zd,rfl,ze,zf,zg,zi⟩;replace hs:=hs.aP zg zi;exact lP 0 0 (rqx (handRq n) za zb zc zd) hs (fun _ hs=>lN (kX (hs.ret [(0,0,3)] (rG (handRq n) za zb zc zd) (⟨_,_,_,_,rfl,ze,zf,hs.f.2.1,hs.f.1⟩))))
theorem LQ.hand (n:Int):LQ 1 (handRq n):=by
  unfold handRq
  have l1:=pick_lt n 41 oM;have p1:=dDen_pos (pick (n.tdiv 41) 6);have p2:=dDen_le (pick (n.tdiv 41) 6);exact LQ.mkR oM oM oM oM oM
abbrev RT:=Bool × Value × Value
def rqc (t:RT):List Value:=[.bool t.1,t.2.1,t.2.2]
def rqd:RT:=(false,undef,undef)
abbrev rA (t:RT):Value:=.agg #[.bool t.1,t.2.1,t.2.2]
abbrev Sr (A:Option Addr)(l:List RT):Hp→Prop:=fun h_=>SlO 3 rqc rqd h_ A l
def rtv (t:RT):Value:=.agg #[.bool t.1,t.2.1,t.2.2]
structure RTs (h:Hp) (ts:List RT) (qs:List Rat):Prop where
  len:ts.length=qs.length
  at_:∀ i,i<qs.length→RQ h (rtv (ts.getD i rqd)) (qs.getD i 0)
abbrev Rt (t:List RT)(l:List Rat):Hp→Prop:=fun h_=>RTs h_ t l
theorem getD_snoc {α:Type}(l:List α)(x d:α)(i:Nat):(l++[x]).getD i d=if i<l.length then l.getD i d else if i=l.length then x else d:=by
  split
  · rename_i h;simp[List.getElem?_append_left h]
  · rename_i h
    split
    · rename_i h2;subst h2;simp
    · rename_i h2;simp[List.getElem?_eq_none (show (l++[x]).length≤i by simp;omega)]
theorem take_snoc' {α:Type}{l:List α}{k:Nat}(d:α)(h:k<l.length):l.take (k+1)=l.take k++[l.getD k d]:=by
  rw[List.take_add_one];simp[h]
def vc (v:Value):List Value:=[v]
abbrev Sv (A:Option Addr)(l:List Value):Hp→Prop:=fun h_=>SlO 1 vc undef h_ A l
def I64s (zs:List Int):Prop:=∀ k,-9223372036854775808≤zs.getD k 0∧zs.getD k 0≤9223372036854775807
structure RVs (h:Hp) (vs:List Value) (qss:List (List Rat)):Prop where
  len:vs.length=qss.length
  at_:∀ i,i<qss.length→∃ A cap,∃ ts:List RT,vs.getD i undef=.slice A ts.length cap∧ts.length≤cap∧SlO 3 rqc rqd h A ts∧RTs h ts (qss.getD i [])
abbrev Ru (t:List Value)(l:List (List Rat)):Hp→Prop:=fun h_=>RVs h_ t l
structure QVs (h:Hp) (vs:List Value) (qss:List (List Rat)):Prop where
  len:vs.length=qss.length
  at_:∀ i,i<qss.length→SlV 5 qc 0 h (vs.getD i undef) (qss.getD i [])
abbrev Qu (t:List Value)(l:List (List Rat)):Hp→Prop:=fun h_=>QVs h_ t l
def maxR (a b:Rat):Rat:=if a<b then b else a
theorem fAbs (a:Rat)(ha:LQ 100000000 a)(w:World)(h:Hp)(g:G w h):CV 76 #[qv a] w h (qv (qabs a)):=by
 have hs:=sS g;refine go Tryz.func76 [(0,qv a)] rfl (cSL (lA 1 41 (qc a) hs (fun b1 w2 h3 hs=>lA 2 41 ([qF,uV 0,eS,uV 0,eS]) hs (fun b4 w5 h6 hs=>lN (cQ (cR 7 [] mixed hs al_nil ?_))))));refine eV 0 3 (pB b1) (eO 1 4 [(1,0,3)] (iv a.num) hs (eV 4 7 (qP b1 3) (eO 5 8 [(1,3,2)] (nv (qd a)) hs (eC 2 5 hs (fun _ _ hs=>wAbs a.num _ _ hs.g) ?_))));rintro _ _ _ w7 h8 hs rfl;refine eC 3 6 hs (fun _ _ hs=>wFromN (iabs a.num) _ _ hs.g) ?_;rintro _ _ _ w9 _ hs rfl;exact eV 6 9 (.agg #[.bool (ineg (((iabs a.num):Nat):Int)),uV (lo (iabs (((iabs a.num):Nat):Int))),.string (hi (iabs (((iabs a.num):Nat):Int))),uV (lo (qd a)),.string (hi (qd a))]) (eD0 hs (fun _ _ hs=>tP 7 0 0 ([.bool (ineg (((iabs a.num):Nat):Int)),uV (lo (iabs (((iabs a.num):Nat):Int))),.string (hi (iabs (((iabs a.num):Nat):Int))),uV (lo (qd a)),.string (hi (qd a))]) hs (fun _ hs=>tN (kX (hs.ret [(0,0,5)] (.agg #[.bool (ineg (((iabs a.num):Nat):Int)),uV (lo (iabs (((iabs a.num):Nat):Int))),.string (hi (iabs (((iabs a.num):Nat):Int))),uV (lo (qd a)),.string (hi (qd a))]) (qv_lit (qabs_num a) (by unfold qd;rw[qabs_den])))))))
structure Lay where
  k:Int
  W:List (List Rat)
  B:List Rat
def lay0:Lay:=⟨0,[],[]⟩
abbrev LV:=Int × Value × Value
def lvd:LV:=(0,undef,undef)
structure NetL (h:Hp) (ts:List LV) (ls:List Lay):Prop where
  len:ts.length=ls.length
  at_:∀ i,i<ls.length→(ts.getD i lvd).1=(ls.getD i lay0).k∧(∃ A c,∃ us:List Value,(ts.getD i lvd).2.1=.slice A us.length c∧us.length≤c∧SlO 1 vc undef h A us∧QVs h us (ls.getD i lay0).W)∧SlV 5 qc 0 h (ts.getD i lvd).2.2 (ls.getD i lay0).B
abbrev Nn (t:List LV)(l:List Lay):Hp→Prop:=fun h_=>NetL h_ t l
structure RNetL (h:Hp) (ts:List LV) (ls:List Lay):Prop where
  len:ts.length=ls.length
  at_:∀ i,i<ls.length→(ts.getD i lvd).1=(ls.getD i lay0).k∧(∃ A c,∃ us:List Value,(ts.getD i lvd).2.1=.slice A us.length c∧us.length≤c∧SlO 1 vc undef h A us∧RVs h us (ls.getD i lay0).W) ∧
    (∃ A c,∃ rs:List RT,(ts.getD i lvd).2.2=.slice A rs.length c∧rs.length≤c∧SlO 3 rqc rqd h A rs∧RTs h rs (ls.getD i lay0).B)
abbrev Rn (t:List LV)(l:List Lay):Hp→Prop:=fun h_=>RNetL h_ t l
def Smalls (l:List Rat):Prop:=∀ q∈l,∃ z,q=smallq z
structure LayMk (L:Lay) (kq:Nat) (r c:Nat):Prop where
  k:L.k=(kq:Int)
  rows:L.W.length=r
  row:∀ q∈L.W,q.length=c∧Smalls q
  bl:L.B.length=r
  bs:Smalls L.B
theorem rNext (A:Option Addr)(cap:Nat)(zs:List Int)(hl:zs.length≤9223372036854775807)(hz:I64s zs)(rbk at_:Nat)(ha:at_≤zs.length)(w:World)(h:Hp)(g:G w h)(ho:Own w rbk 48 [.slice A zs.length cap,nV at_])(hj:h[rbk]?=some junk)(hA:Si A zs h):Calls Tryz.prog 10 #[pB rbk] w (RetM rbk w h fun v w' _=>∃ (z:Int) (at2:Nat),v=iV z∧at2≤zs.length∧(-9223372036854775808≤z∧z≤9223372036854775807)∧Own w' rbk 48 [.slice A zs.length cap,nV at2]):=by
 have hmo:UpM [rbk] w h w h:=UpM.refl g;obtain ⟨wz,hz0_,hs⟩:=SS.at_ g ho hj;replace hs:=hs.aS hA;refine go Tryz.func10 [(0,pB rbk)] rfl (cSL (lL hs [.v 2 (iV 0)] (lN (cQ (cQ (cR 10 [] mixed hs al_nil ?_))))));refine eV 0 3 (pB rbk) (eV 1 4 (pB rbk) (eV 2 5 (qP rbk 1) (eO 3 6 [(0,1,1)] (nV at_) hs (eV 4 7 (pB rbk) (eV 5 8 (pB rbk) (eV 6 9 (pB rbk) (eO 7 10 [(0,0,1)] (qS A zs.length cap) hs (eV 8 11 (nV zs.length) ?_))))))));cases hb1:(decide ((zs.length:Int)≤(at_:Int)))
 ·
  have phb1:=oF hb1;refine eB 9 12 hb1 (eD0u hs (fun w2 h3 u4 hs=>?_));replace hmo:=hmo.trans (u4.m _);refine tN (cIF (cK (cSL (lL hs [.m 13 0,.v 14 (pB rbk),.v 15 (qP rbk 1),.o 16 (nV at_) 0 1 1] (lIn 17 ((at_:Nat)+1) (at_+1) ?_)))));refine lL hs [.v 18 (pB rbk),.v 19 (qP rbk 1)] (lPu 0 1 ([nV (at_+1)]) hs (fun w5 pu hs=>?_));replace hmo:=hmo.put pu (List.mem_singleton.2 rfl) hs.g;refine lN (cQ (cR 11 [] mixed hs al_nil ?_));refine eV 0 20 (pB rbk) (eV 1 21 (pB rbk) (eV 2 22 (pB rbk) (eO 3 23 [(0,0,1)] (qS A zs.length cap) hs (eV 4 24 (pB rbk) (eV 5 25 (pB rbk) (eV 6 26 (qP rbk 1) (eO 7 27 [(0,1,1)] (nV (at_+1)) hs (eIn 8 28 ((at_+1:Nat)-1) ((at_+1)-1) (eX 9 29 A zs.length cap 1 ((at_+1)-1:Nat) ((at_+1)-1) ((hs.f.1).ok oM) (eH 10 30 (iV (zs.getD ((at_+1)-1) 0)) hs ((hs.f.1).el ((at_+1)-1) oM) (eD0u hs (fun w6 h7 u8 hs=>?_))))))))))));replace hmo:=hmo.trans (u8.m _);exact tV 11 2 (iV (zs.getD ((at_+1)-1) 0)) (tN (kX (hs.retM hmo [] (iV (zs.getD ((at_+1)-1) 0)) ⟨zs.getD ((at_+1)-1) 0,(at_+1),rfl,by omega,hz _,hs.own 0⟩)))
 have phb1:=oT hb1;refine eB 9 12 hb1 (eD0u hs (fun w9 _ u11 hs=>?_));replace hmo:=hmo.trans (u11.m _);exact tN (cIT (cSL (lL hs [.v 2 (iV 0)] (lN (kX (hs.retM hmo [] (iV 0) ⟨0,at_,rfl,by omega,⟨by decide,by decide⟩,hs.own 0⟩))))))
structure LayFit (L:Lay):Prop where
  rl:L.W.length≤1000000
  rls:∀ i,i<L.W.length→(L.W.getD i []).length≤1000000
  rf:∀ i,i<L.W.length→∀ j,j<(L.W.getD i []).length→LQ 100000000 ((L.W.getD i []).getD j 0)
  bl:L.B.length≤1000000
  bf:∀ i,i<L.B.length→LQ 100000000 (L.B.getD i 0)
structure Stp where
  op:Int
  a:Int
  b:Int
  n:Int
  q:Rat
def stp0:Stp:=⟨0,0,0,0,0⟩
abbrev gP (l:List Stp)(k:Nat):Stp:=l.getD k stp0
def stc (s:Stp):List Value:=[.int .i64 s.op,.int .i64 s.a,.int .i64 s.b,.int .i64 s.n,.bool (ineg s.q.num),.int .u64 (lo (iabs s.q.num)),.string (hi (iabs s.q.num)),.int .u64 (lo (qd s.q)),.string (hi (qd s.q))]
def stv (s:Stp):Value:=.agg #[.int .i64 s.op,.int .i64 s.a,.int .i64 s.b,.int .i64 s.n,.bool (ineg s.q.num),.int .u64 (lo (iabs s.q.num)),.string (hi (iabs s.q.num)),.int .u64 (lo (qd s.q)),.string (hi (qd s.q))]
def ari (op:Int):Int :=
  if op=1∨op=2 then 0 else if op=7∨op=8∨op=9∨op=10∨op=11 then 1
  else if op=3∨op=4∨op=5∨op=6∨op=12∨op=13 then 2 else -1
theorem ari_cases (op:Int):(ari op=0∧(op=1∨op=2))∨(ari op=1∧(op=7∨op=8∨op=9∨op=10∨op=11))∨(ari op=2∧(op=3∨op=4∨op=5∨op=6∨op=12∨op=13))∨(ari op = -1∧(op<1∨13<op)):=by
  unfold ari;split
  · exact .inl ⟨rfl,by assumption⟩
  · split
    · exact .inr (.inl ⟨rfl,by assumption⟩)
    · split
      · exact .inr (.inr (.inl ⟨rfl,by assumption⟩))
      · exact .inr (.inr (.inr ⟨rfl,by omega⟩))
def Refers (i:Nat)(tt:Int)(used:Prop):Prop:=(used→0≤tt∧tt<i)∧(¬used→tt=0)
def Formed (inp:Int)(i:Nat)(s:Stp):Prop :=
  0≤ari s.op∧Refers i s.a (0<ari s.op)∧Refers i s.b (1<ari s.op)∧(s.op≠1→s.q.num=0) ∧
  (s.op=2→0≤s.n∧s.n<inp)∧(s.op=8 → -12≤s.n∧s.n≤12)∧(s.op≠2→s.op≠8→s.n=0)
instance (i:Nat) (tt:Int) (u:Prop) [Decidable u]:Decidable (Refers i tt u):=by unfold Refers;infer_instance
instance (inp:Int) (i:Nat) (s:Stp):Decidable (Formed inp i s):=by unfold Formed;infer_instance
def weightS (s:Stp)(hv:List Int):Int :=
  if ari s.op=0 then 1 else if ari s.op=2 then hv.getD s.a.toNat 0+hv.getD s.b.toNat 0
  else if s.op=11 then 2*hv.getD s.a.toNat 0 else if s.op=8 then max (max s.n (0-s.n)) 1*hv.getD s.a.toNat 0 else hv.getD s.a.toNat 0
def goS (inp:Int):List Stp→List Int→Int
  | [],_=>0
  | s::r,hv=>if Formed inp hv.length s then (if 65536<weightS s hv then 18 else goS inp r (hv++[weightS s hv])) else 2
def OutsOk (n:Nat)(os:List Int):Prop:=∀ i,i<os.length→0≤os.getD i 0∧os.getD i 0<n
instance (n:Nat) (os:List Int):Decidable (OutsOk n os):=by unfold OutsOk;infer_instance
def chkTp (inp:Int)(l:List Stp)(os:List Int):Int :=
  if 0≤inp∧inp≤1000∧l.length≤65536∧os.length≤300 then (if goS inp l []=0 then (if OutsOk l.length os then 0 else 1) else goS inp l []) else 5
theorem drop_cons' {l:List Stp}{k:Nat}(h:k<l.length):l.drop k=l.getD k stp0::l.drop (k+1):=by
  rw[List.drop_eq_getElem_cons h];simp[h]
theorem goS_bad {inp:Int}{l:List Stp}{hv:List Int}{k:Nat}(hk:k<l.length)(hl:hv.length=k)(h:¬Formed inp k (l.getD k stp0)):goS inp (l.drop k) hv=2:=by
  rw[drop_cons' hk,goS,hl,if_neg h]
theorem goS_over {inp:Int}{l:List Stp}{hv:List Int}{k:Nat}(hk:k<l.length)(hl:hv.length=k)(h:Formed inp k (l.getD k stp0))(hw:65536<weightS (l.getD k stp0) hv):goS inp (l.drop k) hv=18:=by
  rw[drop_cons' hk,goS,hl,if_pos h,if_pos hw]
theorem goS_step {inp:Int}{l:List Stp}{hv:List Int}{k:Nat}(hk:k<l.length)(hl:hv.length=k)(h:Formed inp k (l.getD k stp0))(hw:¬65536<weightS (l.getD k stp0) hv):goS inp (l.drop k) hv=goS inp (l.drop (k+1)) (hv++[weightS (l.getD k stp0) hv]):=by
  rw[drop_cons' hk,goS,hl,if_pos h,if_neg hw]
theorem getD_take {l:List Int}{k j:Nat}(h:j<k):(l.take k).getD j 0=l.getD j 0:=by
  rw[List.getD_eq_getElem?_getD,List.getElem?_take_of_lt h,←List.getD_eq_getElem?_getD]
theorem weight_take {inp:Int}{s:Stp}{L:List Int}{k:Nat}(h:Formed inp k s):weightS s (L.take k)=weightS s L:=by
  obtain ⟨h0,⟨ha,_⟩,⟨hb,_⟩,_⟩:=h
  unfold weightS
  rcases ari_cases s.op with ⟨e,_⟩|⟨e,_⟩|⟨e,_⟩|⟨e,_⟩
  · rw[e];rfl
  · have:=ha oM
    rw[e,getD_take oM];simp
  · have:=ha oM;have:=hb oM
    rw[e,getD_take oM,getD_take oM]
  · omega
theorem take_set_snoc {L:List Int}{k:Nat}{x:Int}(h:k<L.length):(L.set k x).take (k+1)=L.take k++[x]:=by
  rw[List.take_add_one,List.take_set_of_le (Nat.le_refl k)]
  simp[h]
def Wts (L:List Int)(k:Nat):Prop:=∀ j,j<k→1≤L.getD j 0∧L.getD j 0≤65536
theorem Wts.weight {inp:Int}{s:Stp}{L:List Int}{k:Nat}(w:Wts L k)(h:Formed inp k s):1≤weightS s L∧weightS s L≤786432:=by
  obtain ⟨h0,⟨ha,_⟩,⟨hb,_⟩,_,_,h8,_⟩:=h
  unfold weightS
  rcases ari_cases s.op with ⟨e,_⟩|⟨e,_⟩|⟨e,_⟩|⟨e,_⟩
  · rw[e,if_pos rfl];decide
  · have h1:=ha oM
    have h2:=w s.a.toNat oM;rw[e,if_neg kD,if_neg kD]
    split
    · omega
    · split
      · have h3:=h8 aM
        have h4:1≤max (max s.n (0-s.n)) 1∧max (max s.n (0-s.n)) 1≤12:=by omega
        have h5:1*1≤max (max s.n (0-s.n)) 1*L.getD s.a.toNat 0:=Int.mul_le_mul h4.1 h2.1 oM oM;have h6:max (max s.n (0-s.n)) 1*L.getD s.a.toNat 0≤12*65536:=Int.mul_le_mul h4.2 h2.2 oM oM
        omega
      · omega
  · have h1:=ha oM
    have h2:=w s.a.toNat oM;have h3:=hb oM;have h4:=w s.b.toNat oM;rw[e,if_neg kD,if_pos rfl];omega
  · omega
theorem Wts.pow {inp:Int}{s:Stp}{L:List Int}{k:Nat}(w:Wts L k)(h:Formed inp k s)(h8:s.op=8):1≤max (max s.n (0-s.n)) 1*L.getD s.a.toNat 0∧max (max s.n (0-s.n)) 1*L.getD s.a.toNat 0≤786432:=by
  have:=w.weight h
  unfold weightS ari at this
  simp only[h8] at this
  simpa using this
theorem Wts.snoc {L:List Int}{k:Nat}{x:Int}(w:Wts L k)(hk:k<L.length)(h1:1≤x)(h2:x≤65536):Wts (L.set k x) (k+1):=fun j hj=>by
  by_cases e:j=k
  · subst e;rw[List.getD_eq_getElem?_getD,List.getElem?_set_self hk];exact ⟨h1,h2⟩
  · rw[List.getD_eq_getElem?_getD,List.getElem?_set_ne (Ne.symm e),←List.getD_eq_getElem?_getD];exact w j oM
theorem chkTp_shape {inp:Int}{l:List Stp}{os:List Int}(h:¬(0≤inp∧inp≤1000∧l.length≤65536∧os.length≤300)):chkTp inp l os=5:=by unfold chkTp;rw[if_neg h]
theorem chkTp_go {inp:Int}{l:List Stp}{os:List Int}(h:0≤inp∧inp≤1000∧l.length≤65536∧os.length≤300)(hg:goS inp l []≠0):chkTp inp l os=goS inp l []:=by unfold chkTp;rw[if_pos h,if_neg hg]
theorem chkTp_arg {inp:Int}{l:List Stp}{os:List Int}(h:0≤inp∧inp≤1000∧l.length≤65536∧os.length≤300)(hg:goS inp l []=0)(ho:¬OutsOk l.length os):chkTp inp l os=1:=by unfold chkTp;rw[if_pos h,if_pos hg,if_neg ho]
theorem chkTp_ok {inp:Int}{l:List Stp}{os:List Int}(h:0≤inp∧inp≤1000∧l.length≤65536∧os.length≤300)(hg:goS inp l []=0)(ho:OutsOk l.length os):chkTp inp l os=0:=by unfold chkTp;rw[if_pos h,if_pos hg,if_pos ho]
structure RSt where
  op:Int
  a:Int
  b:Int
  n:Int
  t:RT
def rst0:RSt:=⟨0,0,0,0,rqd⟩
def rsc (s:RSt):List Value:=[.int .i64 s.op,.int .i64 s.a,.int .i64 s.b,.int .i64 s.n,.bool s.t.1,s.t.2.1,s.t.2.2]
structure OSt where
  op:Int
  a:Int
  b:Int
  n:Int
  q:Rat
  has:Bool
def ost0:OSt:=⟨0,0,0,0,0,false⟩
def odn (o:OSt):Nat:=if o.has then o.q.den else 0
def OSt.stp (o:OSt):Stp:=⟨o.op,o.a,o.b,o.n,o.q⟩
abbrev gO (s:List OSt)(k:Nat):OSt:=s.getD k ost0
abbrev mO (s:List OSt):List Stp:=s.map OSt.stp
theorem odn_pos {o:OSt}:0<(lim (odn o)).length↔o.has=true:=by
  rw[lim_pos];unfold odn;have:=o.q.den_pos;cases o.has<;>simp;omega
theorem odn_has {o:OSt}(h:o.has=true):odn o=o.q.den:=by unfold odn;rw[h];rfl
structure RS1 (h:Hp) (t:RSt) (o:OSt):Prop where
  op:t.op=o.op
  a:t.a=o.a
  b:t.b=o.b
  n:t.n=o.n
  q:RP h (rtv t.t) o.q.num (odn o)
  z:o.has=false→o.q=0
theorem RS1.gw {h h':Hp}{t:RSt}{o:OSt}(x:RS1 h t o)(u:Gw h h'):RS1 h' t o:=⟨x.op,x.a,x.b,x.n,x.q.gw u,x.z⟩
theorem RS1.opn {h:Hp}{t:RSt}{o:OSt}(x:RS1 h t o):∃ A c D d,Value.agg #[.int .i64 t.op,.int .i64 t.a,.int .i64 t.b,.int .i64 t.n,.bool t.t.1,t.t.2.1,t.t.2.2]=.agg #[.int .i64 o.op,.int .i64 o.a,.int .i64 o.b,.int .i64 o.n,.bool (ineg o.q.num),.slice A (lim (iabs o.q.num)).length c,.slice D (lim (odn o)).length d]∧(lim (iabs o.q.num)).length≤c∧(lim (odn o)).length≤d∧SlO 1 u32c 0 h A (lim (iabs o.q.num))∧SlO 1 u32c 0 h D (lim (odn o)):=by
  obtain ⟨A,c,D,d,e,h1,h2,h3,h4⟩:=x.q
  unfold rtv at e
  injection e with e
  simp only[Array.mk.injEq,List.cons.injEq,and_true] at e
  obtain ⟨e1,e2,e3⟩:=e
  injection e1 with e1
  refine ⟨A,c,D,d,?_,h1,h2,h3,h4⟩;rw[x.op,x.a,x.b,x.n,e1,e2,e3]
structure RSs (h:Hp) (ts:List RSt) (os:List OSt):Prop where
  len:ts.length=os.length
  at_:∀ i,i<os.length→RS1 h (ts.getD i rst0) (os.getD i ost0)
theorem RSs.gw {h h':Hp}{ts:List RSt}{os:List OSt}(x:RSs h ts os)(u:Gw h h'):RSs h' ts os:=⟨x.len,fun i hi=>(x.at_ i hi).gw u⟩
theorem RSs.nil {h:Hp}:RSs h [] []:=⟨rfl,fun i hi=>by simp at hi⟩
theorem RSs.snoc {h:Hp}{ts:List RSt}{os:List OSt}{t:RSt}{o:OSt}(x:RSs h ts os)(y:RS1 h t o):RSs h (ts++[t]) (os++[o]):=by
  refine ⟨by simp[x.len],fun i hi=>?_⟩;rw[getD_snoc,getD_snoc,x.len];rw[List.length_append,List.length_singleton] at hi
  by_cases e:i<os.length
  · rw[if_pos e,if_pos e];exact x.at_ i e
  · rw[if_neg e,if_neg e,if_pos oM,if_pos oM];exact y
structure OSm (o:OSt):Prop where
  op : -1000≤o.op∧o.op≤1000
  a : -1000≤o.a∧o.a≤1000
  b : -1000≤o.b∧o.b≤1000
  n : -1000≤o.n∧o.n≤1000
  q:LQ 1 o.q
def OSms (os:List OSt):Prop:=∀ i,i<os.length→OSm (os.getD i ost0)
theorem OSms.snoc {os:List OSt}{o:OSt}(x:OSms os)(y:OSm o):OSms (os++[o]):=fun i hi=>by
  rw[List.length_append,List.length_singleton] at hi
  rw[getD_snoc]
  by_cases e:i<os.length
  · rw[if_pos e];exact x i e
  · rw[if_neg e,if_pos oM];exact y
theorem stp_getD {os:List OSt}{i:Nat}(h:i<os.length):(os.map OSt.stp).getD i stp0=(os.getD i ost0).stp:=by
  simp[h]
def PwS (ss:List OSt):Prop:=∀ k,k<ss.length → -1≤(ss.getD k ost0).n∧(ss.getD k ost0).n≤2
theorem PwS.snoc {ss:List OSt}{o:OSt}(h:PwS ss)(ho : -1≤o.n∧o.n≤2):PwS (ss++[o]):=fun k hk=>by
  rw[List.length_append,List.length_singleton] at hk
  rw[getD_snoc]
  by_cases e:k<ss.length
  · rw[if_pos e];exact h k e
  · rw[if_neg e,if_pos oM];exact ho
def Opr (k:Nat)(s:Stp):Prop:=(0<ari s.op→s.a.toNat<k)∧(1<ari s.op→s.b.toNat<k)∧(0<ari s.op→s.b.toNat<k)∧(s.op≠2→0≤ari s.op)
theorem Formed.opr {inp:Int}{k:Nat}{s:Stp}(h:Formed inp k s):Opr k s:=by
  obtain ⟨f0,⟨f1,f1'⟩,⟨f2,f2'⟩,_⟩:=h;refine ⟨fun h=>by have:=f1 h;omega,fun h=>by have:=f2 h;omega,fun h=>?_,fun _=>f0⟩;have:=f1 h
  by_cases h2:1<ari s.op
  · have:=f2 h2;omega
  · have:=f2' h2;omega
section
variable {inp:Int} {i:Nat} {s:Stp} (h:Formed inp i s)
include h
theorem Formed.ix:0≤s.a∧0≤s.b∧s.a.toNat≤i∧s.b.toNat≤i:=by
  obtain ⟨f0,⟨f1,f1'⟩,⟨f2,f2'⟩,_⟩:=h
  by_cases h1:0<ari s.op
  · have:=f1 h1
    by_cases h2:1<ari s.op
    · have:=f2 h2;omega
    · have:=f2' h2;omega
  · have:=f1' h1;have:=f2' oM;omega
end
theorem tArity (op:Int)(w:World)(h:Hp)(g:G w h):CV 14 #[iV op] w h (iV (ari op)):=by
 have hs:=sS g;refine go Tryz.func14 [(0,iV op)] rfl (cSL (lL hs [.v 2 (iV 0)] (lN (cQ (cSL (lL hs [.m 3 0] (lN (kZ (cQ (cSL ?_))))))))));cases hb1:((op:Int) == (1:Int))
 ·
  have phb1:=neOfBeq hb1;refine lB 5 hb1 (lL hs [.m 4 5] (lN (cIF (kQ ?_))));cases hb2:((op:Int) == (2:Int))
  ·
   have phb2:=neOfBeq hb2;refine lB 6 hb2 (lL hs [.m 4 6] (lN (cIF (cQ (cSL ?_)))));cases hb3:((op:Int) == (7:Int))
   ·
    have phb3:=neOfBeq hb3;refine lB 8 hb3 (lL hs [.m 7 8] (lN (cIF (cSL ?_))));cases hb4:((op:Int) == (8:Int))
    ·
     have phb4:=neOfBeq hb4;refine lB 9 hb4 (lL hs [.m 7 9] (lN (cIF (cSL ?_))));cases hb5:((op:Int) == (9:Int))
     ·
      have phb5:=neOfBeq hb5;refine lB 10 hb5 (lL hs [.m 7 10] (lN (cIF (cSL ?_))));cases hb6:((op:Int) == (10:Int))
      ·
       have phb6:=neOfBeq hb6;refine lB 11 hb6 (lL hs [.m 7 11] (lN (cIF (kQ ?_))));cases hb7:((op:Int) == (11:Int))
       ·
        have phb7:=neOfBeq hb7;refine lB 12 hb7 (lL hs [.m 7 12] (lN (cIF (cQ (cSL ?_)))));cases hb8:((op:Int) == (3:Int))
        ·
         have phb8:=neOfBeq hb8;refine lB 14 hb8 (lL hs [.m 13 14] (lN (cIF (cSL ?_))));cases hb9:((op:Int) == (4:Int))
         ·
          have phb9:=neOfBeq hb9;refine lB 15 hb9 (lL hs [.m 13 15] (lN (cIF (cSL ?_))));cases za:((op:Int) == (5:Int))
          ·
           have ze:=neOfBeq za;refine lB 16 za (lL hs [.m 13 16] (lN (cIF (cSL ?_))));cases zb:((op:Int) == (6:Int))
           ·
            have zf:=neOfBeq zb;refine lB 17 zb (lL hs [.m 13 17] (lN (cIF (cSL ?_))));cases zc:((op:Int) == (12:Int))
            ·
             have zg:=neOfBeq zc;refine lB 18 zc (lL hs [.m 13 18] (lN (cIF (kQ ?_))));cases zd:((op:Int) == (13:Int))
             ·
              have zi:=neOfBeq zd;exact lB 19 zd (lL hs [.m 13 19] (lN (cIF (cK (cSL (lL hs [.v 2 (iV (-1))] (lN (kX (hs.ret [] (iV (-1)) (congrArg (Value.int .i64) (by have:=ari_cases op;omega)))))))))))
             have zi:=eq_of_beq zd;exact lB 19 zd (lL hs [.m 13 19] (lN (cIT (cSL (lL hs [.v 2 (iV 2)] (lN (kX (hs.ret [] (iV 2) (congrArg (Value.int .i64) (by have:=ari_cases op;omega))))))))))
            have zg:=eq_of_beq zc;exact lB 18 zc (lL hs [.m 13 18] (lN (cIT (cK (cIT (cSL (lL hs [.v 2 (iV 2)] (lN (kX (hs.ret [] (iV 2) (congrArg (Value.int .i64) (by have:=ari_cases op;omega))))))))))))
           have zf:=eq_of_beq zb;exact lB 17 zb (lL hs [.m 13 17] (lN (cIT (cK (cIT (cSL (lL hs [.v 2 (iV 2)] (lN (kX (hs.ret [] (iV 2) (congrArg (Value.int .i64) (by have:=ari_cases op;omega))))))))))))
          have ze:=eq_of_beq za;exact lB 16 za (lL hs [.m 13 16] (lN (cIT (cK (cIT (cSL (lL hs [.v 2 (iV 2)] (lN (kX (hs.ret [] (iV 2) (congrArg (Value.int .i64) (by have:=ari_cases op;omega))))))))))))
         have phb9:=eq_of_beq hb9;exact lB 15 hb9 (lL hs [.m 13 15] (lN (cIT (cK (cIT (cSL (lL hs [.v 2 (iV 2)] (lN (kX (hs.ret [] (iV 2) (congrArg (Value.int .i64) (by have:=ari_cases op;omega))))))))))))
        have phb8:=eq_of_beq hb8;exact lB 14 hb8 (lL hs [.m 13 14] (lN (cIT (cK (cIT (cSL (lL hs [.v 2 (iV 2)] (lN (kX (hs.ret [] (iV 2) (congrArg (Value.int .i64) (by have:=ari_cases op;omega))))))))))))
       have phb7:=eq_of_beq hb7;exact lB 12 hb7 (lL hs [.m 7 12] (lN (cIT (cSL (lL hs [.v 2 (iV 1)] (lN (kX (hs.ret [] (iV 1) (congrArg (Value.int .i64) (by have:=ari_cases op;omega))))))))))
      have phb6:=eq_of_beq hb6;exact lB 11 hb6 (lL hs [.m 7 11] (lN (cIT (cK (cIT (cSL (lL hs [.v 2 (iV 1)] (lN (kX (hs.ret [] (iV 1) (congrArg (Value.int .i64) (by have:=ari_cases op;omega))))))))))))
     have phb5:=eq_of_beq hb5;exact lB 10 hb5 (lL hs [.m 7 10] (lN (cIT (cK (cIT (cSL (lL hs [.v 2 (iV 1)] (lN (kX (hs.ret [] (iV 1) (congrArg (Value.int .i64) (by have:=ari_cases op;omega))))))))))))
    have phb4:=eq_of_beq hb4;exact lB 9 hb4 (lL hs [.m 7 9] (lN (cIT (cK (cIT (cSL (lL hs [.v 2 (iV 1)] (lN (kX (hs.ret [] (iV 1) (congrArg (Value.int .i64) (by have:=ari_cases op;omega))))))))))))
   have phb3:=eq_of_beq hb3;exact lB 8 hb3 (lL hs [.m 7 8] (lN (cIT (cK (cIT (cSL (lL hs [.v 2 (iV 1)] (lN (kX (hs.ret [] (iV 1) (congrArg (Value.int .i64) (by have:=ari_cases op;omega))))))))))))
  have phb2:=eq_of_beq hb2;exact lB 6 hb2 (lL hs [.m 4 6] (lN (cIT (cSL (lL hs [.v 2 (iV 0)] (lN (kX (hs.ret [] (iV 0) (congrArg (Value.int .i64) (by have:=ari_cases op;omega))))))))))
 have phb1:=eq_of_beq hb1;exact lB 5 hb1 (lL hs [.m 4 5] (lN (cIT (cK (cIT (cSL (lL hs [.v 2 (iV 0)] (lN (kX (hs.ret [] (iV 0) (congrArg (Value.int .i64) (by have:=ari_cases op;omega))))))))))))
theorem tRefers_true (tt:Int)(i rb:Nat)(w:World)(h:Hp)(g:G w h)(ho:Own w rb 3 [nV i])(hj:h[rb]?=some junk):Calls Tryz.prog 56 #[iV tt,.bool true,pB rb] w (RetM rb w h fun v w' _=>v=.bool (decide (0≤(tt:Int)∧(tt:Int)<(i:Nat)))∧Own w' rb 3 [nV i]):=by
 have hmo:UpM [rb] w h w h:=UpM.refl g;obtain ⟨wz,hz,hs⟩:=SS.at_ g ho hj;refine go Tryz.func56 [(0,iV tt),(1,qT),(2,pB rb)] rfl (cSL (lL hs [.v 5 qF] (lN (cQ (cSL (lL hs [.m 6 1] (lN (cIT (cSL (lL hs [.m 7 0] ?_))))))))));cases hb1:(decide ((0:Int)≤(tt:Int)))
 ·
  have phb1:=oF hb1;refine lB 8 hb1 (lL hs [.m 9 8] (lG 10 ?_));exact lG 11 (lG 12 (lL hs [.v 13 qF,.m 5 13] (lN (kX (hs.retM hmo [] qF ⟨congrArg Value.bool (decide_eq_false oM).symm,hs.own 0⟩)))))
 have phb1:=oT hb1;refine lB 8 hb1 (lL hs [.m 9 8,.m 10 0,.o 11 (nV i) 0 0 1] ?_);cases hb2:(decide ((tt:Int)<(i:Int)))
 ·
  have phb2:=oF hb2;exact lB 12 hb2 (lL hs [.v 13 qF,.m 5 13] (lN (kX (hs.retM hmo [] qF ⟨congrArg Value.bool (decide_eq_false oM).symm,hs.own 0⟩))))
 have phb2:=oT hb2;exact lB 12 hb2 (lL hs [.v 13 qT,.m 5 13] (lN (kX (hs.retM hmo [] qT ⟨congrArg Value.bool (decide_eq_true oM).symm,hs.own 0⟩))))
theorem tRefers_false (tt:Int)(i rb:Nat)(w:World)(h:Hp)(g:G w h)(ho:Own w rb 3 [nV i])(hj:h[rb]?=some junk):Calls Tryz.prog 56 #[iV tt,.bool false,pB rb] w (RetM rb w h fun v w' _=>v=.bool (decide ((tt:Int)=0))∧Own w' rb 3 [nV i]):=by
 have hmo:UpM [rb] w h w h:=UpM.refl g;obtain ⟨wz,hz,hs⟩:=SS.at_ g ho hj;refine go Tryz.func56 [(0,iV tt),(1,qF),(2,pB rb)] rfl (cSL (lL hs [.v 5 qF] (lN (cQ (cSL (lL hs [.m 6 1] (lN (cIF (cK (cSL (lL hs [.m 14 0] ?_)))))))))));cases hb1:((tt:Int) == (0:Int))
 ·
  have phb1:=neOfBeq hb1;exact lB 15 hb1 (lL hs [.m 5 15] (lN (kX (hs.retM hmo [] qF ⟨congrArg Value.bool (decide_eq_false oM).symm,hs.own 0⟩))))
 have phb1:=eq_of_beq hb1;exact lB 15 hb1 (lL hs [.m 5 15] (lN (kX (hs.retM hmo [] qT ⟨congrArg Value.bool (decide_eq_true oM).symm,hs.own 0⟩))))
theorem tFormed (inp:Int)(A:Option Addr)(c:Nat)(l:List Stp)(O:Option Addr)(d:Nat)(os:List Int)(i:Nat)(hik:i<l.length)(hl:l.length≤65536)(hq:LQ 1 (l.getD i stp0).q)(w:World)(h:Hp)(g:G w h)(hA:SlO 9 stc stp0 h A l)(hO:Si O os h):CV 28 #[.agg #[iV inp,.slice A ((l).length) c,.slice O ((os).length) d],nV i] w h (.bool (decide (Formed inp i (l.getD i stp0)))):=by
 have hs:=(((sS g).aS hA).aS hO);have hsg:(l.getD i stp0).q.num.sign=0↔(l.getD i stp0).q.num=0:=Int.sign_eq_zero_iff_zero;refine go Tryz.func28 [(0,.agg #[iV inp,qS A ((l).length) c,qS O ((os).length) d]),(1,nV i)] rfl (cSL (lA 2 29 ([iV inp,qS A ((l).length) c,qS O ((os).length) d]) hs (fun b1 w2 h3 hs=>lA 3 3 ([nV i]) hs (fun b4 w5 h6 hs=>lL hs [.v 4 qF] (lNS (lL hs [.v 8 (qP b1 1),.o 9 (qS A ((l).length) c) 1 1 1,.o 10 (nV i) 0 0 1] (lX 11 A ((l).length) c 9 (i:Nat) i ((hs.f.2.1).ok oM) ?_)))))));refine lH 12 (.agg #[iV ((l.getD i stp0).op),iV ((l.getD i stp0).a),iV ((l.getD i stp0).b),iV ((l.getD i stp0).n),.bool (ineg ((l.getD i stp0).q).num),uV (lo (iabs ((l.getD i stp0).q).num)),.string (hi (iabs ((l.getD i stp0).q).num)),uV (lo (qd ((l.getD i stp0).q))),.string (hi (qd ((l.getD i stp0).q)))]) hs ((hs.f.2.1).el i oM) (lA 5 43 ([iV 0,iV 0,iV 0,iV 0,qF,uV 0,eS,uV 0,eS]) hs (fun b7 w8 h9 hs=>lP 0 0 ([iV ((l.getD i stp0).op),iV ((l.getD i stp0).a),iV ((l.getD i stp0).b),iV ((l.getD i stp0).n),.bool (ineg ((l.getD i stp0).q).num),uV (lo (iabs ((l.getD i stp0).q).num)),.string (hi (iabs ((l.getD i stp0).q).num)),uV (lo (qd ((l.getD i stp0).q))),.string (hi (qd ((l.getD i stp0).q)))]) hs (fun _ hs=>lNS (lL hs [.v 13 (pB b7),.o 14 (iV ((l.getD i stp0).op)) 0 0 1] (lC 15 hs (tArity (l.getD i stp0).op _ _ hs.g) ?_)))));rintro _ _ _ hs rfl;have hac:=ari_cases (l.getD i stp0).op;refine lL hs [.m 6 15] (lN (cQ (cSL (lL hs [.m 16 6] ?_))));cases za:(decide ((ari (l.getD i stp0).op:Int)<(0:Int)))
 ·
  have zA:=oF za;refine lB 17 za ?_;refine lN (cIF (cK (cSL (lL hs [.v 18 (.func (.func 56) #[] #[pB b4]),.m 7 18] (lN (cQ (CG.join (fun Γ w_=>∃ (zs:Bool) (h_:Hp),Γ=[(2,pB b1),(4,qF),(5,pB b7),(45,.bool zs)]∧SS w h w_ h_ [⟨b7,43,[iV ((l.getD i stp0).op),iV ((l.getD i stp0).a),iV ((l.getD i stp0).b),iV ((l.getD i stp0).n),.bool (ineg ((l.getD i stp0).q).num),uV (lo (iabs ((l.getD i stp0).q).num)),.string (hi (iabs ((l.getD i stp0).q).num)),uV (lo (qd ((l.getD i stp0).q))),.string (hi (qd ((l.getD i stp0).q)))]⟩,⟨b4,3,[nV i]⟩,⟨b1,29,[iV inp,qS A ((l).length) c,qS O ((os).length) d]⟩] [] [Si O os,fun h_=>SlO 9 stc stp0 h_ A l]∧(zs=true→¬(((0<ari (l.getD i stp0).op→0≤(l.getD i stp0).a∧(l.getD i stp0).a<i)∧(¬0<ari (l.getD i stp0).op→(l.getD i stp0).a=0))∧((1<ari (l.getD i stp0).op→0≤(l.getD i stp0).b∧(l.getD i stp0).b<i)∧(¬1<ari (l.getD i stp0).op→(l.getD i stp0).b=0))∧((l.getD i stp0).op≠1→(l.getD i stp0).q.num=0)))∧(zs=false→(((0<ari (l.getD i stp0).op→0≤(l.getD i stp0).a∧(l.getD i stp0).a<i)∧(¬0<ari (l.getD i stp0).op→(l.getD i stp0).a=0))∧((1<ari (l.getD i stp0).op→0≤(l.getD i stp0).b∧(l.getD i stp0).b<i)∧(¬1<ari (l.getD i stp0).op→(l.getD i stp0).b=0))∧((l.getD i stp0).op≠1→(l.getD i stp0).q.num=0)))) ?_ ?_)))))))
  ·
   refine kQ (lL hs [.m 19 7,.v 20 (qP b7 1),.o 21 (iV ((l.getD i stp0).a)) 0 1 1,.m 22 6] ?_);cases zb:(decide ((0:Int)<(ari (l.getD i stp0).op:Int)))
   ·
    have zB:=oF zb;refine lB 23 zb (lCm 24 (tRefers_false ((l.getD i stp0).a) i b4 _ _ hs.g (hs.own 1) (hs.jk 1)) ?_);rintro _ _ yj u18 ⟨rfl,hO15⟩;replace hs:=(hs.stepM 1 u18 hO15).to [⟨b7,43,[iV ((l.getD i stp0).op),iV ((l.getD i stp0).a),iV ((l.getD i stp0).b),iV ((l.getD i stp0).n),.bool (ineg ((l.getD i stp0).q).num),uV (lo (iabs ((l.getD i stp0).q).num)),.string (hi (iabs ((l.getD i stp0).q).num)),uV (lo (qd ((l.getD i stp0).q))),.string (hi (qd ((l.getD i stp0).q)))]⟩,⟨b4,3,[nV i]⟩,⟨b1,29,[iV inp,qS A ((l).length) c,qS O ((os).length) d]⟩] [];cases zt:(decide (((l.getD i stp0).a:Int)=0))
    ·
     have zD:=oF zt;refine lL hs [.v 25 qT,.m 26 25] (lG 27 ?_);refine lG 28 (lG 29 (lG 30 (lG 31 (lG 32 (lG 33 (lL hs [.v 34 qT,.m 35 34] (lG 36 ?_)))))));refine lG 37 (lG 38 (lG 39 (lG 40 (lG 41 (lG 42 (lG 43 (lG 44 (lL hs [.v 45 qT] (lD ?_)))))))));intro a_ ka;exact ⟨_,⟨true,yj,rfl,hs.to _ _,(fun _=>by omega),(fun h_=>absurd h_ kD)⟩,ka.to _ kR⟩
    have zD:=oT zt;refine lL hs [.v 25 qF,.m 26 25,.m 27 7,.v 28 (qP b7 2),.o 29 (iV ((l.getD i stp0).b)) 0 2 1,.m 30 6] ?_;have ⟨yg,phb22⟩:=dF (p:=(1:Int)<(ari (l.getD i stp0).op:Int)) oM;refine lB 31 yg (lCm 32 (tRefers_false ((l.getD i stp0).b) i b4 _ _ hs.g (hs.own 1) (hs.jk 1)) ?_);rintro _ _ ya u26 ⟨rfl,hO23⟩;replace hs:=(hs.stepM 1 u26 hO23).to [⟨b7,43,[iV ((l.getD i stp0).op),iV ((l.getD i stp0).a),iV ((l.getD i stp0).b),iV ((l.getD i stp0).n),.bool (ineg ((l.getD i stp0).q).num),uV (lo (iabs ((l.getD i stp0).q).num)),.string (hi (iabs ((l.getD i stp0).q).num)),uV (lo (qd ((l.getD i stp0).q))),.string (hi (qd ((l.getD i stp0).q)))]⟩,⟨b4,3,[nV i]⟩,⟨b1,29,[iV inp,qS A ((l).length) c,qS O ((os).length) d]⟩] [];cases zu:(decide (((l.getD i stp0).b:Int)=0))
    ·
     have zE:=oF zu;refine lL hs [.v 33 qT,.v 34 qT,.m 35 34] (lG 36 ?_);refine lG 37 (lG 38 (lG 39 (lG 40 (lG 41 (lG 42 (lG 43 (lG 44 (lL hs [.v 45 qT] (lD ?_)))))))));intro a_ ka;exact ⟨_,⟨true,ya,rfl,hs.to _ _,(fun _=>by omega),(fun h_=>absurd h_ kD)⟩,ka.to _ kR⟩
    have zE:=oT zu;refine lL hs [.v 33 qF,.v 34 qF,.m 35 34,.v 36 (pB b7),.o 37 (iV ((l.getD i stp0).op)) 0 0 1] ?_;cases zc:(((l.getD i stp0).op:Int) != (1:Int))
    ·
     have zF:=eqOfBne zc;refine lB 38 zc (lL hs [.m 39 38] (lG 40 ?_));refine lG 41 (lG 42 (lG 43 (lL hs [.v 44 qF,.v 45 qF] (lD ?_))));intro a_ ka;exact ⟨_,⟨false,ya,rfl,hs.to _ _,(fun h_=>absurd h_ kD),(fun _=>by omega)⟩,ka.to _ kR⟩
    have zF:=neOfBne zc;refine lB 38 zc (lL hs [.m 39 38,.v 40 (qP b7 4),.o 41 (qv ((l.getD i stp0).q)) 0 4 5] (lC 42 hs (fSign (l.getD i stp0).q (hq.mono oM) _ _ hs.g) ?_));rintro _ _ yb hs rfl;cases zd:(((l.getD i stp0).q.num.sign:Int) != (0:Int))
    ·
     have zG:=eqOfBne zd;refine lB 43 zd (lL hs [.v 44 qF,.v 45 qF] (lD ?_));intro a_ ka;exact ⟨_,⟨false,yb,rfl,hs.to _ _,(fun h_=>absurd h_ kD),(fun _=>by omega)⟩,ka.to _ kR⟩
    have zG:=neOfBne zd;refine lB 43 zd (lL hs [.v 44 qT,.v 45 qT] (lD ?_));intro a_ ka;exact ⟨_,⟨true,yb,rfl,hs.to _ _,(fun _=>by omega),(fun h_=>absurd h_ kD)⟩,ka.to _ kR⟩
   have zB:=oT zb;refine lB 23 zb (lCm 24 (tRefers_true ((l.getD i stp0).a) i b4 _ _ hs.g (hs.own 1) (hs.jk 1)) ?_);rintro _ _ yk u43 ⟨rfl,hO40⟩;replace hs:=(hs.stepM 1 u43 hO40).to [⟨b7,43,[iV ((l.getD i stp0).op),iV ((l.getD i stp0).a),iV ((l.getD i stp0).b),iV ((l.getD i stp0).n),.bool (ineg ((l.getD i stp0).q).num),uV (lo (iabs ((l.getD i stp0).q).num)),.string (hi (iabs ((l.getD i stp0).q).num)),uV (lo (qd ((l.getD i stp0).q))),.string (hi (qd ((l.getD i stp0).q)))]⟩,⟨b4,3,[nV i]⟩,⟨b1,29,[iV inp,qS A ((l).length) c,qS O ((os).length) d]⟩] [];cases zv:(decide (0≤((l.getD i stp0).a:Int)∧((l.getD i stp0).a:Int)<(i:Nat)))
   ·
    have zH:=oF zv;refine lL hs [.v 25 qT,.m 26 25] (lG 27 ?_);refine lG 28 (lG 29 (lG 30 (lG 31 (lG 32 (lG 33 (lL hs [.v 34 qT,.m 35 34] (lG 36 ?_)))))));refine lG 37 (lG 38 (lG 39 (lG 40 (lG 41 (lG 42 (lG 43 (lG 44 (lL hs [.v 45 qT] (lD ?_)))))))));intro a_ ka;exact ⟨_,⟨true,yk,rfl,hs.to _ _,(fun _=>by omega),(fun h_=>absurd h_ kD)⟩,ka.to _ kR⟩
   have zH:=oT zv;refine lL hs [.v 25 qF,.m 26 25,.m 27 7,.v 28 (qP b7 2),.o 29 (iV ((l.getD i stp0).b)) 0 2 1,.m 30 6] ?_;cases ze:(decide ((1:Int)<(ari (l.getD i stp0).op:Int)))
   ·
    have zI:=oF ze;refine lB 31 ze (lCm 32 (tRefers_false ((l.getD i stp0).b) i b4 _ _ hs.g (hs.own 1) (hs.jk 1)) ?_);rintro _ _ yc u51 ⟨rfl,hO48⟩;replace hs:=(hs.stepM 1 u51 hO48).to [⟨b7,43,[iV ((l.getD i stp0).op),iV ((l.getD i stp0).a),iV ((l.getD i stp0).b),iV ((l.getD i stp0).n),.bool (ineg ((l.getD i stp0).q).num),uV (lo (iabs ((l.getD i stp0).q).num)),.string (hi (iabs ((l.getD i stp0).q).num)),uV (lo (qd ((l.getD i stp0).q))),.string (hi (qd ((l.getD i stp0).q)))]⟩,⟨b4,3,[nV i]⟩,⟨b1,29,[iV inp,qS A ((l).length) c,qS O ((os).length) d]⟩] [];cases zw:(decide (((l.getD i stp0).b:Int)=0))
    ·
     have zJ:=oF zw;refine lL hs [.v 33 qT,.v 34 qT,.m 35 34] (lG 36 ?_);refine lG 37 (lG 38 (lG 39 (lG 40 (lG 41 (lG 42 (lG 43 (lG 44 (lL hs [.v 45 qT] (lD ?_)))))))));intro a_ ka;exact ⟨_,⟨true,yc,rfl,hs.to _ _,(fun _=>by omega),(fun h_=>absurd h_ kD)⟩,ka.to _ kR⟩
    have zJ:=oT zw;refine lL hs [.v 33 qF,.v 34 qF,.m 35 34,.v 36 (pB b7),.o 37 (iV ((l.getD i stp0).op)) 0 0 1] ?_;cases zf:(((l.getD i stp0).op:Int) != (1:Int))
    ·
     have zK:=eqOfBne zf;refine lB 38 zf (lL hs [.m 39 38] (lG 40 ?_));refine lG 41 (lG 42 (lG 43 (lL hs [.v 44 qF,.v 45 qF] (lD ?_))));intro a_ ka;exact ⟨_,⟨false,yc,rfl,hs.to _ _,(fun h_=>absurd h_ kD),(fun _=>by omega)⟩,ka.to _ kR⟩
    have zK:=neOfBne zf;refine lB 38 zf (lL hs [.m 39 38,.v 40 (qP b7 4),.o 41 (qv ((l.getD i stp0).q)) 0 4 5] (lC 42 hs (fSign (l.getD i stp0).q (hq.mono oM) _ _ hs.g) ?_));rintro _ _ yd hs rfl;cases zg:(((l.getD i stp0).q.num.sign:Int) != (0:Int))
    ·
     have zL:=eqOfBne zg;refine lB 43 zg (lL hs [.v 44 qF,.v 45 qF] (lD ?_));intro a_ ka;exact ⟨_,⟨false,yd,rfl,hs.to _ _,(fun h_=>absurd h_ kD),(fun _=>by omega)⟩,ka.to _ kR⟩
    have zL:=neOfBne zg;refine lB 43 zg (lL hs [.v 44 qT,.v 45 qT] (lD ?_));intro a_ ka;exact ⟨_,⟨true,yd,rfl,hs.to _ _,(fun _=>by omega),(fun h_=>absurd h_ kD)⟩,ka.to _ kR⟩
   have zI:=oT ze;refine lB 31 ze (lCm 32 (tRefers_true ((l.getD i stp0).b) i b4 _ _ hs.g (hs.own 1) (hs.jk 1)) ?_);rintro _ _ ye u68 ⟨rfl,hO65⟩;replace hs:=(hs.stepM 1 u68 hO65).to [⟨b7,43,[iV ((l.getD i stp0).op),iV ((l.getD i stp0).a),iV ((l.getD i stp0).b),iV ((l.getD i stp0).n),.bool (ineg ((l.getD i stp0).q).num),uV (lo (iabs ((l.getD i stp0).q).num)),.string (hi (iabs ((l.getD i stp0).q).num)),uV (lo (qd ((l.getD i stp0).q))),.string (hi (qd ((l.getD i stp0).q)))]⟩,⟨b4,3,[nV i]⟩,⟨b1,29,[iV inp,qS A ((l).length) c,qS O ((os).length) d]⟩] [];cases zx:(decide (0≤((l.getD i stp0).b:Int)∧((l.getD i stp0).b:Int)<(i:Nat)))
   ·
    have zM:=oF zx;refine lL hs [.v 33 qT,.v 34 qT,.m 35 34] (lG 36 ?_);refine lG 37 (lG 38 (lG 39 (lG 40 (lG 41 (lG 42 (lG 43 (lG 44 (lL hs [.v 45 qT] (lD ?_)))))))));intro a_ ka;exact ⟨_,⟨true,ye,rfl,hs.to _ _,(fun _=>by omega),(fun h_=>absurd h_ kD)⟩,ka.to _ kR⟩
   have zM:=oT zx;refine lL hs [.v 33 qF,.v 34 qF,.m 35 34,.v 36 (pB b7),.o 37 (iV ((l.getD i stp0).op)) 0 0 1] ?_;cases zi:(((l.getD i stp0).op:Int) != (1:Int))
   ·
    have zN:=eqOfBne zi;refine lB 38 zi (lL hs [.m 39 38] (lG 40 ?_));refine lG 41 (lG 42 (lG 43 (lL hs [.v 44 qF,.v 45 qF] (lD ?_))));intro a_ ka;exact ⟨_,⟨false,ye,rfl,hs.to _ _,(fun h_=>absurd h_ kD),(fun _=>by omega)⟩,ka.to _ kR⟩
   have zN:=neOfBne zi;refine lB 38 zi (lL hs [.m 39 38,.v 40 (qP b7 4),.o 41 (qv ((l.getD i stp0).q)) 0 4 5] (lC 42 hs (fSign (l.getD i stp0).q (hq.mono oM) _ _ hs.g) ?_));rintro _ _ yf hs rfl;cases zj:(((l.getD i stp0).q.num.sign:Int) != (0:Int))
   ·
    have zP:=eqOfBne zj;refine lB 43 zj (lL hs [.v 44 qF,.v 45 qF] (lD ?_));intro a_ ka;exact ⟨_,⟨false,yf,rfl,hs.to _ _,(fun h_=>absurd h_ kD),(fun _=>by omega)⟩,ka.to _ kR⟩
   have zP:=neOfBne zj;refine lB 43 zj (lL hs [.v 44 qT,.v 45 qT] (lD ?_));intro a_ ka;exact ⟨_,⟨true,yf,rfl,hs.to _ _,(fun _=>by omega),(fun h_=>absurd h_ kD)⟩,ka.to _ kR⟩
  rintro _ _ ⟨zs,_,rfl,hs,yi,hF45⟩;cases zk:(zs)
  ·
   try rw[zk] at hs
   try rw[zk]
   refine cIF (cK (cQ (cSL ?_)));have yl:=hF45 aM;refine lL hs [.v 46 (pB b7),.o 47 (iV ((l.getD i stp0).op)) 0 0 1] (lN (kZ (cSL ?_)));cases zl:(((l.getD i stp0).op:Int) == (2:Int))
   ·
    have zQ:=neOfBeq zl;refine lB 49 zl (lL hs [.m 48 49] (lN (cIF (cSL ?_))));cases zm:(((l.getD i stp0).op:Int) == (8:Int))
    ·
     have zR:=neOfBeq zm;refine lB 61 zm (lL hs [.m 60 61] (lN (cIF (cK (cSL (lL hs [.v 70 (qP b7 3),.o 71 (iV ((l.getD i stp0).n)) 0 3 1] ?_))))));cases zn:(((l.getD i stp0).n:Int) == (0:Int))
     ·
      have zS:=neOfBeq zn;exact lB 72 zn (lL hs [.m 4 72] (lN (kX (hs.ret [] qF (congrArg Value.bool (decide_eq_false (by unfold Formed Refers;omega)).symm)))))
     have zS:=eq_of_beq zn;exact lB 72 zn (lL hs [.m 4 72] (lN (kX (hs.ret [] qT (congrArg Value.bool (decide_eq_true (by unfold Formed Refers;omega)).symm)))))
    have zR:=eq_of_beq zm;refine lB 61 zm (lL hs [.m 60 61] (lN (cIT (cSL (lL hs [.v 62 (qP b7 3),.o 63 (iV ((l.getD i stp0).n)) 0 3 1] ?_)))));cases zo:(decide ((-12:Int)≤((l.getD i stp0).n:Int)))
    ·
     have zT:=oF zo;refine lB 64 zo (lL hs [.m 65 64] (lG 66 ?_));exact lG 67 (lG 68 (lL hs [.v 69 qF,.m 4 69] (lN (kX (hs.ret [] qF (congrArg Value.bool (decide_eq_false (by unfold Formed Refers;omega)).symm))))))
    have zT:=oT zo;refine lB 64 zo (lL hs [.m 65 64,.v 66 (qP b7 3),.o 67 (iV ((l.getD i stp0).n)) 0 3 1] ?_);cases zp:(decide (((l.getD i stp0).n:Int)≤(12:Int)))
    ·
     have zU:=oF zp;exact lB 68 zp (lL hs [.v 69 qF,.m 4 69] (lN (kX (hs.ret [] qF (congrArg Value.bool (decide_eq_false (by unfold Formed Refers;omega)).symm)))))
    have zU:=oT zp;exact lB 68 zp (lL hs [.v 69 qT,.m 4 69] (lN (kX (hs.ret [] qT (congrArg Value.bool (decide_eq_true (by unfold Formed Refers;omega)).symm)))))
   have zQ:=eq_of_beq zl;refine lB 49 zl (lL hs [.m 48 49] (lN (cIT (cSL (lL hs [.v 50 (qP b7 3),.o 51 (iV ((l.getD i stp0).n)) 0 3 1] ?_)))));cases zq:(decide ((0:Int)≤((l.getD i stp0).n:Int)))
   ·
    have zW:=oF zq;refine lB 52 zq (lL hs [.m 53 52] (lG 54 ?_));exact lG 55 (lG 56 (lG 57 (lG 58 (lL hs [.v 59 qF,.m 4 59] (lN (kX (hs.ret [] qF (congrArg Value.bool (decide_eq_false (by unfold Formed Refers;omega)).symm))))))))
   have zW:=oT zq;refine lB 52 zq (lL hs [.m 53 52,.v 54 (qP b7 3),.o 55 (iV ((l.getD i stp0).n)) 0 3 1,.v 56 (pB b1),.o 57 (iV inp) 2 0 1] ?_);cases zr:(decide (((l.getD i stp0).n:Int)<(inp:Int)))
   ·
    have zX:=oF zr;exact lB 58 zr (lL hs [.v 59 qF,.m 4 59] (lN (kX (hs.ret [] qF (congrArg Value.bool (decide_eq_false (by unfold Formed Refers;omega)).symm)))))
   have zX:=oT zr;exact lB 58 zr (lL hs [.v 59 qT,.m 4 59] (lN (kX (hs.ret [] qT (congrArg Value.bool (decide_eq_true (by unfold Formed Refers;omega)).symm)))))
  try rw[zk] at hs
  try rw[zk]
  refine cIT (cSL ?_);have yl:=yi aM;exact lL hs [.v 4 qF] (lN (kX (hs.ret [] qF (congrArg Value.bool (decide_eq_false (by unfold Formed Refers;omega)).symm))))
 have zA:=oT za;exact lB 17 za (lN (cIT (cSL (lL hs [.v 4 qF] (lN (kX (hs.ret [] qF (congrArg Value.bool (decide_eq_false (by unfold Formed Refers;omega)).symm))))))))
theorem tWeight (s:Stp)(V:Option Addr)(n c:Nat)(hv:List Int)(hn:hv.length=n)(k:Nat)(inp:Int)(hF:Formed inp k s)(hW:Wts hv k)(hk:k≤hv.length)(w:World)(h:Hp)(g:G w h)(hV:Si V hv h):CV 29 #[.agg #[iV s.op,iV s.a,iV s.b,iV s.n,.bool (ineg s.q.num),uV (lo (iabs s.q.num)),.string (hi (iabs s.q.num)),uV (lo (qd s.q)),.string (hi (qd s.q))],.slice V n c] w h (iV (weightS s hv)):=by
 have hs:=((sS g).aS hV);have hwb:=hW.weight hF;have hpw:=hW.pow hF;obtain ⟨f0,f1,f2,f3,f4,f5,f6⟩:=hF
 unfold Refers at f1 f2
 have hac:=ari_cases s.op;have hwa:=fun h0=>hW s.a.toNat h0
 have hwc:=fun h0=>hW s.b.toNat h0
 refine go Tryz.func29 [(0,.agg #[iV s.op,iV s.a,iV s.b,iV s.n,.bool (ineg s.q.num),uV (lo (iabs s.q.num)),.string (hi (iabs s.q.num)),uV (lo (qd s.q)),.string (hi (qd s.q))]),(1,qS V n c)] rfl (cSL (lA 2 43 ([iV s.op,iV s.a,iV s.b,iV s.n,.bool (ineg s.q.num),uV (lo (iabs s.q.num)),.string (hi (iabs s.q.num)),uV (lo (qd s.q)),.string (hi (qd s.q))]) hs (fun b1 w2 h3 hs=>lL hs [.v 4 (iV 0)] (lN (cQ (cSL (lL hs [.v 5 (pB b1),.o 6 (iV s.op) 0 0 1] (lC 7 hs (tArity s.op _ _ hs.g) ?_))))))));rintro _ w4 h5 hs rfl;refine lN (kZ (cSL ?_));cases hb6:((ari s.op:Int) == (0:Int))
 ·
  have phb6:=neOfBeq hb6;refine lB 9 hb6 (lL hs [.m 8 9] (lN (cIF (cSL ?_))));cases hb7:((ari s.op:Int) == (2:Int))
  ·
   have phb7:=neOfBeq hb7;refine lB 11 hb7 (lL hs [.m 10 11] (lN (cIF (cK (cQ (cSL (lL hs [.v 23 (pB b1),.o 24 (iV s.op) 0 0 1] (lN (kZ (cSL ?_))))))))));cases hb8:((s.op:Int) == (11:Int))
   ·
    have phb8:=neOfBeq hb8;refine lB 26 hb8 (lL hs [.m 25 26] (lN (cIF (cSL ?_))));cases hb9:((s.op:Int) == (8:Int))
    ·
     have phb9:=neOfBeq hb9;refine lB 34 hb9 (lL hs [.m 33 34] (lN (cIF (cK (cSL (lL hs [.m 47 1,.v 48 (qP b1 1),.o 49 (iV s.a) 0 1 1] (lX 50 V n c 1 s.a s.a.toNat ((hs.f.1).ok oM) ?_)))))));exact lH 51 (iV (hv.getD s.a.toNat 0)) hs ((hs.f.1).el s.a.toNat oM) (lL hs [.m 4 51] (lN (kX (hs.ret [] (iV (hv.getD s.a.toNat 0)) (congrArg (Value.int .i64) (by unfold weightS;first|(rw[if_pos oM])|(rw[if_neg oM,if_pos oM])|(rw[if_neg oM,if_neg oM,if_pos oM])|(rw[if_neg oM,if_neg oM,if_neg oM,if_pos oM])|(rw[if_neg oM,if_neg oM,if_neg oM,if_neg oM])))))))
    have phb9:=eq_of_beq hb9;refine lB 34 hb9 (lL hs [.m 33 34] (lN (cIT (cQ (cR 12 [] mixed hs al_nil ?_)))));refine eV 0 35 (qP b1 3) (eO 1 36 [(0,3,1)] (iV s.n) hs (eV 2 37 (qP b1 3) (eO 3 38 [(0,3,1)] (iV s.n) hs (eI 4 39 (0-s.n) (eV 5 40 (iV (max (max (s.n:Int) (0-s.n:Int)) (1:Int))) ?_ (hv:=fun _=>rint (n:=(if (1:Int)>(if (0-s.n:Int)>(s.n:Int) then (0-s.n:Int) else (s.n:Int)) then (1:Int) else (if (0-s.n:Int)>(s.n:Int) then (0-s.n:Int) else (s.n:Int)))) kR (by simp only[imax2])))))));exact eV 6 41 (qS V n c) (eV 7 42 (qP b1 1) (eO 8 43 [(0,1,1)] (iV s.a) hs (eX 9 44 V n c 1 s.a s.a.toNat ((hs.f.1).ok oM) (eH 10 45 (iV (hv.getD s.a.toNat 0)) hs ((hs.f.1).el s.a.toNat oM) (eI 11 46 ((max (max (s.n:Int) (0-s.n:Int)) (1:Int))*(hv.getD s.a.toNat 0)) (eD0 hs (fun _ _ hs=>tV 12 4 (iV ((max (max (s.n:Int) (0-s.n:Int)) (1:Int))*(hv.getD s.a.toNat 0))) (tN (kX (hs.ret [] (iV ((max (max (s.n:Int) (0-s.n:Int)) (1:Int))*(hv.getD s.a.toNat 0))) (congrArg (Value.int .i64) (by unfold weightS;first|(rw[if_pos oM])|(rw[if_neg oM,if_pos oM])|(rw[if_neg oM,if_neg oM,if_pos oM])|(rw[if_neg oM,if_neg oM,if_neg oM,if_pos oM])|(rw[if_neg oM,if_neg oM,if_neg oM,if_neg oM])))))))))))))
   have phb8:=eq_of_beq hb8;refine lB 26 hb8 (lL hs [.m 25 26] (lN (cIT (cSL (lL hs [.m 27 1,.v 28 (qP b1 1),.o 29 (iV s.a) 0 1 1] (lX 30 V n c 1 s.a s.a.toNat ((hs.f.1).ok oM) ?_))))));exact lH 31 (iV (hv.getD s.a.toNat 0)) hs ((hs.f.1).el s.a.toNat oM) (lI 32 (2*(hv.getD s.a.toNat 0)) (lL hs [.m 4 32] (lN (kX (hs.ret [] (iV (2*(hv.getD s.a.toNat 0))) (congrArg (Value.int .i64) (by unfold weightS;first|(rw[if_pos oM])|(rw[if_neg oM,if_pos oM])|(rw[if_neg oM,if_neg oM,if_pos oM])|(rw[if_neg oM,if_neg oM,if_neg oM,if_pos oM])|(rw[if_neg oM,if_neg oM,if_neg oM,if_neg oM]))))))))
  have phb7:=eq_of_beq hb7;refine lB 11 hb7 (lL hs [.m 10 11] (lN (cIT (cQ (cR 11 [] mixed hs al_nil ?_)))));exact eV 0 12 (qS V n c) (eV 1 13 (qP b1 1) (eO 2 14 [(0,1,1)] (iV s.a) hs (eX 3 15 V n c 1 s.a s.a.toNat ((hs.f.1).ok oM) (eH 4 16 (iV (hv.getD s.a.toNat 0)) hs ((hs.f.1).el s.a.toNat oM) (eV 5 17 (qS V n c) (eV 6 18 (qP b1 2) (eO 7 19 [(0,2,1)] (iV s.b) hs (eX 8 20 V n c 1 s.b s.b.toNat ((hs.f.1).ok oM) (eH 9 21 (iV (hv.getD s.b.toNat 0)) hs ((hs.f.1).el s.b.toNat oM) (eI 10 22 ((hv.getD s.a.toNat 0)+(hv.getD s.b.toNat 0)) (eD0 hs (fun _ _ hs=>tV 11 4 (iV ((hv.getD s.a.toNat 0)+(hv.getD s.b.toNat 0))) (tN (kX (hs.ret [] (iV ((hv.getD s.a.toNat 0)+(hv.getD s.b.toNat 0))) (congrArg (Value.int .i64) (by unfold weightS;first|(rw[if_pos oM])|(rw[if_neg oM,if_pos oM])|(rw[if_neg oM,if_neg oM,if_pos oM])|(rw[if_neg oM,if_neg oM,if_neg oM,if_pos oM])|(rw[if_neg oM,if_neg oM,if_neg oM,if_neg oM]))))))))))))))))))
 have phb6:=eq_of_beq hb6;exact lB 9 hb6 (lL hs [.m 8 9] (lN (cIT (cSL (lL hs [.v 4 (iV 1)] (lN (kX (hs.ret [] (iV 1) (congrArg (Value.int .i64) (by unfold weightS;first|(rw[if_pos oM])|(rw[if_neg oM,if_pos oM])|(rw[if_neg oM,if_neg oM,if_pos oM])|(rw[if_neg oM,if_neg oM,if_neg oM,if_pos oM])|(rw[if_neg oM,if_neg oM,if_neg oM,if_neg oM])))))))))))
theorem tCheck (inp:Int)(A:Option Addr)(c:Nat)(l:List Stp)(O:Option Addr)(d:Nat)(os:List Int)(hl:l.length≤1000000)(ho:os.length≤1000000)(hq:∀ i,i<l.length→LQ 1 (l.getD i stp0).q)(w:World)(h:Hp)(g:G w h)(hA:SlO 9 stc stp0 h A l)(hO:Si O os h):CV 13 #[.agg #[iV inp,.slice A ((l).length) c,.slice O ((os).length) d]] w h (iV (chkTp inp l os)):=by
 have hs:=(((sS g).aS hA).aS hO);refine go Tryz.func13 [(0,.agg #[iV inp,qS A ((l).length) c,qS O ((os).length) d])] rfl (cSL (lA 1 29 ([iV inp,qS A ((l).length) c,qS O ((os).length) d]) hs (fun b1 w2 h3 hs=>lL hs [.v 2 (iV 0)] (lN (cQ (cSL (lL hs [.v 8 (pB b1),.o 9 (iV inp) 0 0 1] ?_)))))));cases hb4:(decide ((inp:Int)<(0:Int)))
 ·
  have phb4:=oF hb4;refine lB 10 hb4 (lL hs [.m 11 10,.v 12 (pB b1),.o 13 (iV inp) 0 0 1] ?_);cases hb5:(decide ((1000:Int)<(inp:Int)))
  ·
   have phb5:=oF hb5;refine lB 14 hb5 (lL hs [.v 15 qF,.m 16 15,.v 17 (qP b1 1),.o 18 (qS A ((l).length) c) 0 1 1,.v 19 (nV ((l).length))] ?_);cases hb6:(decide ((65536:Int)<(((l).length:Nat):Int)))
   ·
    have phb6:=oF hb6;refine lB 20 hb6 (lL hs [.v 21 qF,.m 22 21,.v 23 (qP b1 2),.o 24 (qS O ((os).length) d) 0 2 1,.v 25 (nV ((os).length))] ?_);cases hb7:(decide ((300:Int)<(((os).length:Nat):Int)))
    ·
     have phb7:=oF hb7;refine lB 26 hb7 (lL hs [.v 27 qF] (lN (cIF (cK (cSL (lL hs [.v 28 (qP b1 1),.o 29 (qS A ((l).length) c) 0 1 1,.v 30 (nV ((l).length))] (lK 31 3 ((l).length) 1 8 (iV 0) i64c (0:Int) hs (fun b8 w9 zp hs=>?_))))))));have zn:(List.replicate ((l).length) (0:Int)).length=((l).length):=by simp
     refine lL hs [.m 3 31] (lN (cQ (cSL (lL hs [.v 32 (qP b1 1),.o 33 (qS A ((l).length) c) 1 1 1,.v 34 (nV ((l).length)),.v 35 (iV 0)] (lN (kZ ?_))))));have hsh:0≤inp∧inp≤1000∧l.length≤65536∧os.length≤300:=by omega
     refine cTo _ (CG.loop (fun μ_ Γ w_=>∃ (k:Nat) (L:List Int) (h_:Hp),μ_=l.length-k∧Γ=[(1,pB b1),(3,qS (sB b8) ((l).length) ((l).length)),(33,qS A ((l).length) c),(34,nV ((l).length)),(35,nV k)]∧SS w h w_ h_ [⟨b8,3,(L).flatMap i64c⟩,⟨b1,29,[iV inp,qS A ((l).length) c,qS O ((os).length) d]⟩] [] [Si O os,fun h_=>SlO 9 stc stp0 h_ A l]∧k≤l.length∧L.length=l.length∧Wts L k∧goS inp l []=goS inp (l.drop k) (L.take k)) _ ⟨0,List.replicate ((l).length) (0:Int),zp,rfl,rfl,hs.to _ _,Nat.zero_le _,zn,fun j hj=>absurd hj (Nat.not_lt_zero j),rfl⟩ ?_);rintro _ _ _ ⟨k,L,zq,hm14,rfl,hs,hk,hlL,hWt,hgo⟩;refine cSL ?_;cases za:(decide ((k:Int)<(((l).length:Nat):Int)))
     ·
      have zg:=oF za;refine lB 36 za (lN (cQ (cIF (CG.exit ?_))))
      show CG _ _ _ _ _ _ _ _
      refine cQ (cSL (lL hs [.v 56 (qP b1 2),.o 57 (qS O ((os).length) d) 1 2 1,.v 58 (nV ((os).length)),.v 59 (iV 0)] (lN (kZ ?_))));refine cTo _ (CG.loop (fun μ_ Γ w_=>∃ (j:Nat) (h_:Hp),μ_=os.length-j∧Γ=[(1,pB b1),(57,qS O ((os).length) d),(58,nV ((os).length)),(59,nV j)]∧SS w h w_ h_ [⟨b8,3,(L).flatMap i64c⟩,⟨b1,29,[iV inp,qS A ((l).length) c,qS O ((os).length) d]⟩] [] [Si O os,fun h_=>SlO 9 stc stp0 h_ A l]∧j≤os.length∧(∀ i,i<j→0≤os.getD i 0∧os.getD i 0<l.length)) _ ⟨0,zq,rfl,rfl,hs.to _ _,Nat.zero_le _,fun j hj=>absurd hj (Nat.not_lt_zero j)⟩ ?_);rintro _ _ _ ⟨j,zr,hm18,rfl,hs,hj,hou⟩;refine cSL ?_;cases zb:(decide ((j:Int)<(((os).length:Nat):Int)))
      ·
       have zi:=oF zb;refine lB 60 zb (lN (cQ (cIF (CG.exit ?_))))
       show CG _ _ _ _ _ _ _ _
       exact cSL (lL hs [.v 2 (iV 0)] (lN (kX (hs.ret [] (iV 0) (congrArg (Value.int .i64) (chkTp_ok hsh (by rw[hgo,List.drop_eq_nil_of_le oM];rfl) (fun i hi=>hou i oM)).symm)))))
      have zi:=oT zb;refine lB 60 zb (lN (cQ (cIT (cK (cQ (kZ (cSL (lX 61 O ((os).length) d 1 (j:Nat) j ((hs.f.1).ok oM) ?_))))))));refine lH 62 (iV (os.getD j 0)) hs ((hs.f.1).el j oM) (lL hs [.m 7 62] (lNS (lL hs [.m 63 7] ?_)));cases zc:(decide ((os.getD j 0:Int)<(0:Int)))
      ·
       have zj:=oF zc;refine lB 64 zc (lL hs [.m 65 64,.m 66 7,.v 67 (qP b1 1),.o 68 (qS A ((l).length) c) 1 1 1,.v 69 (nV ((l).length))] ?_);cases zd:(decide ((((l).length:Nat):Int)≤(os.getD j 0:Int)))
       ·
        have zk:=oF zd;refine lB 70 zd (lL hs [.v 71 qF] (lN (cIF (cK (kQ (lIn 72 ((j:Nat)+1) (j+1) ?_))))));refine lL hs [.m 59 72] (lD ?_);intro a_ ka;refine ⟨_,_,?_,⟨j+1,zr,rfl,rfl,hs.to _ _,oM,(fun i hi=>by by_cases e:i=j;(subst e;omega);exact hou i oM)⟩,ka.to _ kR⟩
        omega
       have zk:=oT zd;exact lB 70 zd (lL hs [.v 71 qT] (lN (cIT (cSL (lL hs [.v 2 (iV 1)] (lN (kX (hs.ret [] (iV 1) (congrArg (Value.int .i64) (chkTp_arg hsh (by rw[hgo,List.drop_eq_nil_of_le oM];rfl) (fun h_=>by have:=h_ j oM;omega)).symm)))))))))
      have zj:=oT zc;refine lB 64 zc (lL hs [.m 65 64] (lG 66 ?_));exact lG 67 (lG 68 (lG 69 (lG 70 (lL hs [.v 71 qT] (lN (cIT (cSL (lL hs [.v 2 (iV 1)] (lN (kX (hs.ret [] (iV 1) (congrArg (Value.int .i64) (chkTp_arg hsh (by rw[hgo,List.drop_eq_nil_of_le oM];rfl) (fun h_=>by have:=h_ j oM;omega)).symm))))))))))))
     have zg:=oT za;refine lB 36 za (lN (cQ (cIT (cK (cQ (kZ (cSL (lL hs [.m 37 35] (lX 38 A ((l).length) c 9 (k:Nat) k ((hs.f.2.1).ok oM) ?_)))))))));refine lH 39 (.agg #[iV ((l.getD k stp0).op),iV ((l.getD k stp0).a),iV ((l.getD k stp0).b),iV ((l.getD k stp0).n),.bool (ineg ((l.getD k stp0).q).num),uV (lo (iabs ((l.getD k stp0).q).num)),.string (hi (iabs ((l.getD k stp0).q).num)),uV (lo (qd ((l.getD k stp0).q))),.string (hi (qd ((l.getD k stp0).q)))]) hs ((hs.f.2.1).el k oM) (lA 5 43 ([iV 0,iV 0,iV 0,iV 0,qF,uV 0,eS,uV 0,eS]) hs (fun zs _ _ hs=>lL hs [.m 4 37] (lP 0 0 ([iV ((l.getD k stp0).op),iV ((l.getD k stp0).a),iV ((l.getD k stp0).b),iV ((l.getD k stp0).n),.bool (ineg ((l.getD k stp0).q).num),uV (lo (iabs ((l.getD k stp0).q).num)),.string (hi (iabs ((l.getD k stp0).q).num)),uV (lo (qd ((l.getD k stp0).q))),.string (hi (qd ((l.getD k stp0).q)))]) hs (fun _ hs=>lN (cQ (cSL (lL hs [.o 40 (.agg #[iV inp,qS A ((l).length) c,qS O ((os).length) d]) 2 0 3,.m 41 4] (lC 42 hs (tFormed inp A c l O d os k oM oM (hq k oM) _ _ hs.g hs.f.2.1 hs.f.1) ?_))))))));rintro _ _ _ hs rfl;cases zf:(decide (Formed inp k (l.getD k stp0)))
     ·
      have zl:=oF zf;exact lL hs [.v 43 qT] (lN (cIT (cSL (lL hs [.v 2 (iV 2)] (lN (kX (hs.ret [] (iV 2) (congrArg (Value.int .i64) ((chkTp_go hsh (by rw[hgo,goS_bad oM (by simp;omega) ‹¬Formed inp k (l.getD k stp0)›];decide)).trans (hgo.trans (goS_bad oM (by simp;omega) ‹¬Formed inp k (l.getD k stp0)›))).symm))))))))
     have zl:=oT zf;refine lL hs [.v 43 qF] (lN (cIF (cK (cSL (lL hs [.m 44 3,.m 45 4,.o 46 (.agg #[iV ((l.getD k stp0).op),iV ((l.getD k stp0).a),iV ((l.getD k stp0).b),iV ((l.getD k stp0).n),.bool (ineg ((l.getD k stp0).q).num),uV (lo (iabs ((l.getD k stp0).q).num)),.string (hi (iabs ((l.getD k stp0).q).num)),uV (lo (qd ((l.getD k stp0).q))),.string (hi (qd ((l.getD k stp0).q)))]) 0 0 9,.m 47 3] (lCl 48 1 hs (fun _ g_ f_ sg_=>tWeight (l.getD k stp0) (sB b8) ((l).length) ((l).length) L hlL k inp ‹Formed inp k (l.getD k stp0)› hWt oM _ _ g_ (SlO.of_flat (sz:=1) (f:=i64c) (d:=0) (b:=b8) (o:=0) (l:=L) (fun _=>rfl) sg_)) ?_))))));rintro _ _ zt hs rfl;have hws:=hWt.weight ‹Formed inp k (l.getD k stp0)›;have hgs:(L.set k (weightS (l.getD k stp0) L)).getD k 0=weightS (l.getD k stp0) L:=by rw[List.getD_eq_getElem?_getD,List.getElem?_set_self oM];rfl
     refine lX 49 (sB b8) ((l).length) ((l).length) 1 (k:Nat) k rfl (lW 1 L i64c 1 k (weightS (l.getD k stp0) L) hs oM (fun _ hs=>?_));have zo:((L).set k (weightS (l.getD k stp0) L)).length=((l).length):=by rw[List.length_set];exact hlL
     replace hs:=hs.to [⟨zs,43,[iV ((l.getD k stp0).op),iV ((l.getD k stp0).a),iV ((l.getD k stp0).b),iV ((l.getD k stp0).n),.bool (ineg ((l.getD k stp0).q).num),uV (lo (iabs ((l.getD k stp0).q).num)),.string (hi (iabs ((l.getD k stp0).q).num)),uV (lo (qd ((l.getD k stp0).q))),.string (hi (qd ((l.getD k stp0).q)))]⟩,⟨b8,3,((L).set k (weightS (l.getD k stp0) L)).flatMap i64c⟩,⟨b1,29,[iV inp,qS A ((l).length) c,qS O ((os).length) d]⟩] [];refine lNS (lL hs [.m 50 3,.m 51 4] (lX 52 (sB b8) ((l).length) ((l).length) 1 (k:Nat) k rfl ?_));refine lQ 53 1 ((L).set k (weightS (l.getD k stp0) L)) i64c 1 0 k (iV (((L).set k (weightS (l.getD k stp0) L)).getD k 0)) hs oM ?_;cases ze:(decide ((65536:Int)<(((L).set k (weightS (l.getD k stp0) L)).getD k 0:Int)))
     ·
      have zm:=oF ze;refine lB 54 ze (lN (cIF (cK (kQ (lIn 55 ((k:Nat)+1) (k+1) ?_)))));refine lL hs [.m 35 55] (lD ?_);intro a_ ka;replace hs:=hs.drop 1 0;refine ⟨_,_,?_,⟨k+1,(L).set k (weightS (l.getD k stp0) L),zt,rfl,rfl,hs.to _ _,oM,zo,(hWt.snoc oM hws.1 oM),(hgo.trans ((goS_step oM (by simp;omega) ‹Formed inp k (l.getD k stp0)› (by rw[weight_take ‹Formed inp k (l.getD k stp0)›];omega)).trans (by rw[weight_take ‹Formed inp k (l.getD k stp0)›,take_set_snoc oM])))⟩,ka.to _ kR⟩
      omega
     have zm:=oT ze;exact lB 54 ze (lN (cIT (cSL (lL hs [.v 2 (iV 18)] (lN (kX (hs.ret [] (iV 18) (congrArg (Value.int .i64) ((chkTp_go hsh (by rw[hgo,goS_over oM (by simp;omega) ‹Formed inp k (l.getD k stp0)› (by rw[weight_take ‹Formed inp k (l.getD k stp0)›];omega)];decide)).trans (hgo.trans (goS_over oM (by simp;omega) ‹Formed inp k (l.getD k stp0)› (by rw[weight_take ‹Formed inp k (l.getD k stp0)›];omega)))).symm))))))))
    have phb7:=oT hb7;exact lB 26 hb7 (lL hs [.v 27 qT] (lN (cIT (cSL (lL hs [.v 2 (iV 5)] (lN (kX (hs.ret [] (iV 5) (congrArg (Value.int .i64) (chkTp_shape oM).symm)))))))))
   have phb6:=oT hb6;refine lB 20 hb6 (lL hs [.v 21 qT,.m 22 21] (lG 23 ?_));exact lG 24 (lG 25 (lG 26 (lL hs [.v 27 qT] (lN (cIT (cSL (lL hs [.v 2 (iV 5)] (lN (kX (hs.ret [] (iV 5) (congrArg (Value.int .i64) (chkTp_shape oM).symm)))))))))))
  have phb5:=oT hb5;refine lB 14 hb5 (lL hs [.v 15 qT,.m 16 15] (lG 17 ?_));refine lG 18 (lG 19 (lG 20 (lL hs [.v 21 qT,.m 22 21] (lG 23 ?_))));exact lG 24 (lG 25 (lG 26 (lL hs [.v 27 qT] (lN (cIT (cSL (lL hs [.v 2 (iV 5)] (lN (kX (hs.ret [] (iV 5) (congrArg (Value.int .i64) (chkTp_shape oM).symm)))))))))))
 have phb4:=oT hb4;refine lB 10 hb4 (lL hs [.m 11 10] (lG 12 ?_));refine lG 13 (lG 14 (lL hs [.v 15 qT,.m 16 15] (lG 17 ?_)));refine lG 18 (lG 19 (lG 20 (lL hs [.v 21 qT,.m 22 21] (lG 23 ?_))));exact lG 24 (lG 25 (lG 26 (lL hs [.v 27 qT] (lN (cIT (cSL (lL hs [.v 2 (iV 5)] (lN (kX (hs.ret [] (iV 5) (congrArg (Value.int .i64) (chkTp_shape oM).symm)))))))))))
structure LayLen (L:Lay):Prop where
  rl:L.W.length≤1000000
  rls:∀ i,i<L.W.length→(L.W.getD i []).length≤1000000
  bl:L.B.length≤1000000
structure Mat (W:List (List Rat)) (r c:Nat):Prop where
  rows:W.length=r
  rpos:0<r
  cpos:0<c
  row:∀ i,i<r→(W.getD i []).length=c
structure Net3 (ls:List Lay) (d:Nat→Nat):Prop where
  len:1≤ls.length∧ls.length≤4
  first:d 0≤20
  lay:∀ i,i<ls.length→Mat (ls.getD i lay0).W (d (i+1)) (d i)∧(ls.getD i lay0).B.length=d (i+1)∧d (i+1)≤12∧((ls.getD i lay0).k=1∨(ls.getD i lay0).k=2∨(ls.getD i lay0).k=3)
theorem one_abs_pos (u:Rat):0<((1:Int):Rat)+qabs u:=by
  have h:(0:Rat)≤qabs u:=by rw[←Rat.num_nonneg,qabs_num];omega
  have h1:(0:Rat)<((1:Int):Rat):=by decide
  grind
theorem one_abs_ne (u:Rat):(((1:Int):Rat)+qabs u).num≠0:=by
  have:=one_abs_pos u;intro e;have e2:((1:Int):Rat)+qabs u=0:=by rw[←Rat.num_eq_zero];exact e
  rw[e2] at this;exact absurd this kD
def act (k:Int)(u:Rat):Rat:=if k=2 then maxR u 0 else if k=3 then u/(((1:Int):Rat)+qabs u) else u
def layq (L:Lay)(x:List Rat):List Rat:=(List.range L.W.length).map fun i=>act L.k (dotq (L.W.getD i []) x x.length+L.B.getD i 0)
def outq (ls:List Lay)(xs:List Rat):Nat→List Rat
  | 0=>xs
  | k+1=>layq (ls.getD k lay0) (outq ls xs k)
abbrev gD (ls:List Lay)(xs:List Rat)(k r:Nat):Rat:=dotq ((ls.getD k lay0).W.getD r []) (outq ls xs k) (outq ls xs k).length
abbrev gS (ls:List Lay)(xs:List Rat)(k r:Nat):Rat:=gD ls xs k r+((ls.getD k lay0).B).getD r 0
structure NetB (ls:List Lay) (xs:List Rat):Prop where
  w:∀ k i j,LQ 1000000 (((ls.getD k lay0).W.getD i []).getD j 0)
  b:∀ k i,LQ 1000000 ((ls.getD k lay0).B.getD i 0)
  x:∀ k,k≤ls.length→∀ j,LQ 1000000 ((outq ls xs k).getD j 0)
theorem RQ.eq {h:Hp}{v:Value}{p q:Rat}(x:RQ h v p)(e:p=q):RQ h v q:=by subst e;exact x
theorem rep_zero {n:Nat}:∀ j,(List.replicate n (0:Rat)).getD j 0=0:=fun j=>by
  rw[List.getD_eq_getElem?_getD,List.getElem?_replicate];split<;>rfl
structure LaySz (L:Lay):Prop where
  rl:L.W.length≤8
  rls:∀ i,(L.W.getD i []).length≤8
  bl:L.B.length≤8
  w:∀ i j,LQ 1 ((L.W.getD i []).getD j 0)
  b:∀ i,LQ 1 (L.B.getD i 0)
  b4:L.B.length≤4
  w4:(L.W.getD 0 []).length≤4
theorem lq0 {k:Nat}(h:1≤k):LQ k 0:=(LQ.lit (z:=0) kD).mono h
theorem cmpR_self (a:Rat):cmpR a a=0:=by unfold cmpR cmpI;rw[if_neg oM,if_neg oM]
section fut
variable {P:Program} {n:Nat} {N R:Po} {X:Nat→Po} {ops:Array Oper} {k0 K:Nat} {L:Array Bool} {Γ:Env} {w:World} {h:Hp} {w0:World} {h0:Hp} {B:List Bx} {Rs:List Rw} {F:List (Hp→Prop)}
end fut
theorem getD_set_ {α:Type}{l:List α}{n i:Nat}{d x:α}(h:n<l.length):(l.set n x).getD i d=if i=n then x else l.getD i d:=by
  split
  · rename_i e;subst e;simp[h]
  · rename_i e;rw[List.getD_eq_getElem?_getD,List.getElem?_set_ne (Ne.symm e),←List.getD_eq_getElem?_getD]
structure LayS4 (L:Lay):Prop where
  rl:L.W.length≤4
  rls:∀ i,(L.W.getD i []).length≤4
  bl:L.B.length≤4
  w:∀ i j,LQ 1 ((L.W.getD i []).getD j 0)
  b:∀ i,LQ 1 (L.B.getD i 0)
section fla
variable {P:Program} {n:Nat} {N R:Po} {X:Nat→Po} {ops:Array Oper} {k:Nat} {Γ:Env} {w:World} {h:Hp} {w0:World} {h0:Hp} {B:List Bx} {Rs:List Rw} {F:List (Hp→Prop)}
end fla
section prt
variable {M:Ms} {P:Program} {n:Nat} {N R:Po} {X:Nat→Po} {ops:Array Oper} {k k0:Nat} {hr:Hp} {AL:List Al} {L:Array Bool} {Γ:Env} {w:World} {h:Hp}
end prt
theorem getD_outR {α:Type}{l:List α}{i:Nat}{d:α}(h:l.length≤i):l.getD i d=d:=by rw[List.getD_eq_getElem?_getD,List.getElem?_eq_none h];rfl
def powN (a:Rat):Nat→Rat
  | 0=>((1:Int):Rat)
  | k+1=>powN a k*a
theorem powN_nz {a:Rat}(h:a≠0):∀ k,powN a k≠0
  | 0=>by show ((1:Int):Rat)≠0;decide
  | k+1=>by show powN a k*a≠0;have:=powN_nz h k;grind
theorem powN_zero {k:Nat}(h:0<k):powN 0 k=0:=by
  obtain ⟨j,rfl⟩:∃ j,k=j+1:=⟨k-1,by omega⟩
  show powN 0 j*0=0;rw[Rat.mul_zero]
def powq (a:Rat)(n:Int):Rat:=if 0≤n then powN a n.natAbs else ((1:Int):Rat)/powN a n.natAbs
def minR (a b:Rat):Rat:=if b<a then b else a
def opv (op n:Int)(q a b:Rat):Rat :=
  if op=1 then q else if op=3 then a+b else if op=4 then a-b else if op=5 then a*b else if op=6 then a/b else if op=7 then -a
  else if op=8 then powq a n else if op=9 then qabs a else if op=10 then maxR a 0 else if op=11 then a/(qabs a+((1:Int):Rat)) else if op=12 then maxR a b else minR a b
def okq (op n:Int)(a b:Rat):Prop:=(op=6→b≠0)∧(op=8→n<0→a≠0)
instance (op n:Int) (a b:Rat):Decidable (okq op n a b):=by unfold okq;infer_instance
def knk (op:Int)(a b:Rat):Prop:=(op=9∨op=10)∧a=0∨(op=12∨op=13)∧a=b
instance (op:Int) (a b:Rat):Decidable (knk op a b):=by unfold knk;infer_instance
def sval (s:Stp)(at_ v:List Rat):Rat:=if s.op=2 then at_.getD s.n.toNat 0 else opv s.op s.n s.q (v.getD s.a.toNat 0) (v.getD s.b.toNat 0)
def tvals (l:List Stp)(at_:List Rat):Nat→List Rat
  | 0=>[]
  | k+1=>tvals l at_ k++[sval (l.getD k stp0) at_ (tvals l at_ k)]
theorem tvals_len (l:List Stp)(at_:List Rat):∀ k,(tvals l at_ k).length=k
  | 0=>rfl
  | k+1=>by show (tvals l at_ k++[_]).length=_;rw[List.length_append,tvals_len l at_ k];rfl
def serr (sm:Bool)(s:Stp)(v:List Rat):Int:=if s.op=2 then 0 else if okq s.op s.n (v.getD s.a.toNat 0) (v.getD s.b.toNat 0) then (if sm=true∧knk s.op (v.getD s.a.toNat 0) (v.getD s.b.toNat 0) then 7 else 0) else 6
def terr (sm:Bool)(l:List Stp)(at_:List Rat):Nat→Int
  | 0=>0
  | k+1=>if terr sm l at_ k=0 then serr sm (l.getD k stp0) (tvals l at_ k) else terr sm l at_ k
theorem terr_bad {sm:Bool}{l:List Stp}{at_:List Rat}{k:Nat}(h:terr sm l at_ k≠0):∀ j,terr sm l at_ (k+j)=terr sm l at_ k
  | 0=>rfl
  | j+1=>by
    have e:=terr_bad h j
    show (if terr sm l at_ (k+j)=0 then serr sm (l.getD (k+j) stp0) (tvals l at_ (k+j)) else terr sm l at_ (k+j))=_
    rw[e,if_neg h]
theorem terr_stop {sm:Bool}{l:List Stp}{at_:List Rat}{k n:Nat}(h0:terr sm l at_ k=0)(hk:k<n)(h:serr sm (l.getD k stp0) (tvals l at_ k)≠0):terr sm l at_ n=serr sm (l.getD k stp0) (tvals l at_ k):=by
  have e:terr sm l at_ (k+1)=serr sm (l.getD k stp0) (tvals l at_ k):=by show (if _=0 then _ else _)=_;rw[if_pos h0]
  obtain ⟨j,rfl⟩:∃ j,n=k+1+j:=⟨n-(k+1),by omega⟩;rw[terr_bad (by rw[e];exact h),e]
theorem terr_step {sm:Bool}{l:List Stp}{at_:List Rat}{k:Nat}(h0:terr sm l at_ k=0)(h:serr sm (l.getD k stp0) (tvals l at_ k)=0):terr sm l at_ (k+1)=0:=by
  show (if _=0 then _ else _)=_;rw[if_pos h0];exact h
def pickL (v:List Rat)(os:List Int):List Rat:=os.map fun o=>v.getD o.toNat 0
def sla (op n:Int)(a b:Rat):Rat :=
  if op=3 then ((1:Int):Rat) else if op=4 then ((1:Int):Rat) else if op=5 then b else if op=6 then ((1:Int):Rat)/b else if op=7 then -((1:Int):Rat)
  else if op=8 then (if n=0 then 0 else powq a (n-1)*((n:Int):Rat)) else if op=9 then ((a.num.sign:Int):Rat) else if op=10 then ((max a.num.sign 0:Int):Rat)
  else if op=11 then (((1:Int):Rat)/(((1:Int):Rat)+qabs a))*(((1:Int):Rat)/(((1:Int):Rat)+qabs a))
  else if op=12 then (if b<a then ((1:Int):Rat) else 0) else if op=13 then (if b<a then 0 else ((1:Int):Rat)) else 0
def slb (op:Int)(a b:Rat):Rat :=
  if op=3 then ((1:Int):Rat) else if op=4 then -((1:Int):Rat) else if op=5 then a else if op=6 then -(a*(((1:Int):Rat)/b)*(((1:Int):Rat)/b))
  else if op=12 then (if b<a then 0 else ((1:Int):Rat)) else if op=13 then (if b<a then ((1:Int):Rat) else 0) else 0
theorem sign_bd (z:Int) : -1≤z.sign∧z.sign≤1:=by
  rcases Int.lt_trichotomy z 0 with h|h|h
  · rw[Int.sign_eq_neg_one_of_neg h];decide
  · rw[h];decide
  · rw[Int.sign_eq_one_of_pos h];decide
theorem num_nz {a:Rat}(h:a≠0):a.num≠0:=fun e=>h (by rw[←Rat.num_eq_zero];exact e)
theorem lq_powN {a:Rat}{K:Nat}(h:LQ K a):∀ k,LQ (k*K+1) (powN a k)
  | 0=>LQ.mono (k:=1) (LQ.lit (z:=1) kD) oM
  | k+1=>((lq_powN h k).mul h).mono (by rw[Nat.add_mul];omega)
theorem lq_powq {a:Rat}{K:Nat}{n:Int}(hK:1≤K)(h:LQ K a)(hn : -13≤n∧n≤13):LQ (13*K+2) (powq a n):=by
  have h1:=lq_powN h n.natAbs;have h2:n.natAbs*K≤13*K:=Nat.mul_le_mul_right _ oM
  unfold powq
  split
  · exact h1.mono oM
  · exact ((LQ.lit (z:=1) kD).div h1).mono oM
theorem fDivB (a b:Rat)(hb:b=0)(w:World)(h:Hp)(g:G w h):CV 74 #[qv a,qv b] w h (.tuple #[qv 0,.bool false]):=by
  subst hb;exact fDivZ a (lq0 oM) w h g
theorem abs_one_ne (u:Rat):(qabs u+((1:Int):Rat)).num≠0:=by rw[Rat.add_comm];exact one_abs_ne u
theorem knk_1 {op:Int}{a b:Rat}(h:op=9∨op=10):(a.num.sign == (0:Int))=decide (knk op a b):=by
  have e:a.num.sign=0↔a=0:=by rw[Int.sign_eq_zero_iff_zero,Rat.num_eq_zero]
  by_cases h0:a=0
  · rw[decide_eq_true (show knk op a b from .inl ⟨h,h0⟩)];simpa using e.2 h0
  · rw[decide_eq_false (show ¬knk op a b from fun x=>by rcases x with x|x;exact h0 x.2;omega)]
    simpa using fun h1=>h0 (e.1 h1)
theorem cmpR_eq {a b:Rat}:cmpR a b=0↔a=b:=by
  constructor
  · intro h
    have h1:¬a<b:=fun x=>by have:=cmpR_lt.2 x;omega
    have h2:¬b<a:=fun x=>by have:=cmpR_gt.2 x;omega
    grind
  · intro h;subst h
    have h1:¬cmpR a a<0:=fun x=>by have:=cmpR_lt.1 x;grind
    have h2:¬cmpR a a>0:=fun x=>by have:=cmpR_gt.1 x;grind
    omega
theorem knk_2 {op:Int}{a b:Rat}(h:op=12∨op=13):(cmpR a b == (0:Int))=decide (knk op a b):=by
  by_cases h0:a=b
  · rw[decide_eq_true (show knk op a b from .inr ⟨h,h0⟩)];simpa using cmpR_eq.2 h0
  · rw[decide_eq_false (show ¬knk op a b from fun x=>by rcases x with x|x;omega;exact h0 x.2)]
    simpa using fun h1=>h0 (cmpR_eq.1 h1)
theorem knk_0 {op:Int}{a b:Rat}(h:¬(op=9∨op=10∨op=12∨op=13)):false=decide (knk op a b):=by
  rw[decide_eq_false (show ¬knk op a b from fun x=>by rcases x with x|x<;>omega)]
theorem slm_29 {op n:Int}{a b:Rat}(h:op=12∨op=13)(hc:0<cmpR a b∧op=12∨¬0<cmpR a b∧op=13):Value.tuple #[qv ((1:Int):Rat),qv 0]=.tuple #[qv (sla op n a b),qv (slb op a b)]:=by
  rcases hc with ⟨h1,rfl⟩|⟨h1,rfl⟩
  · have h2:b<a:=cmpR_gt.1 h1
    unfold sla slb;simp[h2]
  · have h2:¬b<a:=fun x=>h1 (cmpR_gt.2 x)
    unfold sla slb;simp[h2]
theorem slm_30 {op n:Int}{a b:Rat}(h:op=12∨op=13)(hc:0<cmpR a b∧op=13∨¬0<cmpR a b∧op=12):Value.tuple #[qv 0,qv ((1:Int):Rat)]=.tuple #[qv (sla op n a b),qv (slb op a b)]:=by
  rcases hc with ⟨h1,rfl⟩|⟨h1,rfl⟩
  · have h2:b<a:=cmpR_gt.1 h1
    unfold sla slb;simp[h2]
  · have h2:¬b<a:=fun x=>h1 (cmpR_gt.2 x)
    unfold sla slb;simp[h2]
theorem fMin (a b:Rat)(ha:LQ 100000000 a)(hb:LQ 100000000 b)(w:World)(h:Hp)(g:G w h):CV 104 #[qv a,qv b] w h (qv (minR a b)):=by
 have hs:=sS g;refine go Tryz.func104 [(0,qv a),(1,qv b)] rfl (cSL (lA 2 41 (qc a) hs (fun b1 w2 h3 hs=>lA 3 41 (qc b) hs (fun b4 w5 h6 hs=>lA 4 41 ([qF,uV 0,eS,uV 0,eS]) hs (fun b7 w8 h9 hs=>lN (cQ (cSL (lL hs [.o 5 (qv b) 1 0 5,.o 6 (qv a) 2 0 5] (lC 7 hs (fCmp b a (LQ.mono hb oM) (LQ.mono ha oM) _ _ hs.g) ?_)))))))));rintro _ _ _ hs rfl;cases za:(decide ((cmpR b a:Int)<(0:Int)))
 ·
  have zb:=oF za;exact lB 8 za (lN (cIF (cK (cSL (lL hs [.o 10 (qv a) 2 0 5] (lP 0 0 (qc a) hs (fun _ hs=>lN (kX (hs.ret [(0,0,5)] (qv a) (by unfold minR;rw[if_neg (fun h_=>by have:=cmpR_lt.2 h_;omega)]))))))))))
 have zb:=oT za;exact lB 8 za (lN (cIT (cSL (lL hs [.o 9 (qv b) 1 0 5] (lP 0 0 (qc b) hs (fun _ hs=>lN (kX (hs.ret [(0,0,5)] (qv b) (by unfold minR;rw[if_pos (cmpR_lt.1 oM)])))))))))
theorem tPowerP (a:Rat)(n:Int)(K:Nat)(hK:14*K+20≤100000000)(ha:LQ K a)(hn : -13≤n∧n≤13)(hs:0≤n)(w:World)(h:Hp)(g:G w h)(tb:Tab h):CV 75 #[qv a,iV n] w h (.tuple #[qv (powq a n),.bool true]):=by
 have hs:=((sS g).aB tb);obtain ⟨m,hm⟩:∃ m:Nat,m=n.natAbs:=⟨_,rfl⟩;have hm13:m≤13:=by omega
 refine go Tryz.func75 [(0,qv a),(1,iV n)] rfl (cSL (lA 2 41 (qc a) hs (fun b1 w2 h3 hs=>lA 4 41 ([qF,uV 0,eS,uV 0,eS]) hs (fun b4 w5 h6 hs=>lL hs [.v 5 qF] (lNS (lC 7 hs (fOf 1 oM oM _ _ hs.g) ?_))))));rintro _ w7 h8 hs rfl;refine lA 6 41 ([qF,uV 0,eS,uV 0,eS]) hs (fun b9 _ zd hs=>lP 0 0 (qc ((1:Int):Rat)) hs (fun _ hs=>lN (cQ (cSL (lL hs [.m 8 1,.m 9 1] (lI 10 (0-n) ?_))))));refine lV 11 (iV (max (n:Int) (0-n:Int))) ?_ (hr:=rint (n:=(if (0-n:Int)>(n:Int) then (0-n:Int) else (n:Int))) kR (by simp only[imax2]));refine lL hs [.v 12 (iV 0)] (lN (kZ ?_));refine cTo _ (CG.loop (fun μ_ Γ w_=>∃ (k:Nat) (h_:Hp),μ_=m-k∧Γ=[(1,iV n),(2,pB b1),(4,pB b4),(5,qF),(6,pB b9),(11,iV (max (n:Int) (0-n:Int))),(12,nV k)]∧SS w h w_ h_ [⟨b9,41,qc (powN a k)⟩,⟨b4,41,[qF,uV 0,eS,uV 0,eS]⟩,⟨b1,41,qc a⟩] [] [fun h_=>Tab h_]∧k≤m) _ ⟨0,zd,rfl,rfl,hs.to _ _,Nat.zero_le _⟩ ?_);rintro _ _ _ ⟨k,_,hm15,rfl,hs,hk⟩;have hkK:k*K≤13*K:=Nat.mul_le_mul_right _ oM;have hpk:=lq_powN ha k;refine cSL ?_;cases za:(decide ((k:Int)<(max (n:Int) (0-n:Int):Int)))
 ·
  have zb:=oF za;refine lB 13 za (lN (cQ (cIF (CG.exit ?_))))
  show CG _ _ _ _ _ _ _ _
  refine cQ (cSL (lL hs [.m 18 1] ?_));have ⟨zc,phb17⟩:=dT (p:=(0:Int)≤(n:Int)) oM;exact lB 19 zc (lN (cIT (cSL (lL hs [.o 20 (qv (powN a k)) 0 0 5] (lP 1 0 (qc (powN a k)) hs (fun _ hs=>lL hs [.v 5 qT] (lN (kX (hs.ret [(1,0,5)] (.tuple #[qv (powN a k),qT]) (by unfold powq;rw[if_pos oM,show n.natAbs=k by omega]))))))))))
 have zb:=oT za;refine lB 13 za (lN (cQ (cIT (cK (cQ (kZ (kQ (lL hs [.o 14 (qv (powN a k)) 0 0 5,.o 15 (qv a) 2 0 5] ?_))))))));have hq19:=LQ.mul hpk ha;refine lC 16 hs (fMul (powN a k) a (LQ.mono hpk oM) (LQ.mono ha oM) _ _ hs.g hs.f.1) ?_;rintro _ _ ze hs rfl;refine lP 0 0 (qc ((powN a k)*a)) hs (fun _ hs=>lN (kQ (lIn 17 ((k:Nat)+1) (k+1) ?_)));refine lL hs [.m 12 17] (lD ?_);intro a_ ka;refine ⟨_,_,?_,⟨k+1,ze,rfl,rfl,hs.to _ _,oM⟩,ka.to _ kR⟩
 omega
theorem tPowerN (a:Rat)(n:Int)(K:Nat)(hK:14*K+20≤100000000)(ha:LQ K a)(hn : -13≤n∧n≤13)(hs:n<0)(ha0:a≠0)(w:World)(h:Hp)(g:G w h)(tb:Tab h):CV 75 #[qv a,iV n] w h (.tuple #[qv (powq a n),.bool true]):=by
 have hs:=((sS g).aB tb);obtain ⟨m,hm⟩:∃ m:Nat,m=n.natAbs:=⟨_,rfl⟩;have hm13:m≤13:=by omega
 refine go Tryz.func75 [(0,qv a),(1,iV n)] rfl (cSL (lA 2 41 (qc a) hs (fun b1 w2 h3 hs=>lA 4 41 ([qF,uV 0,eS,uV 0,eS]) hs (fun b4 w5 h6 hs=>lL hs [.v 5 qF] (lNS (lC 7 hs (fOf 1 oM oM _ _ hs.g) ?_))))));rintro _ w7 h8 hs rfl;refine lA 6 41 ([qF,uV 0,eS,uV 0,eS]) hs (fun b9 _ zd hs=>lP 0 0 (qc ((1:Int):Rat)) hs (fun _ hs=>lN (cQ (cSL (lL hs [.m 8 1,.m 9 1] (lI 10 (0-n) ?_))))));refine lV 11 (iV (max (n:Int) (0-n:Int))) ?_ (hr:=rint (n:=(if (0-n:Int)>(n:Int) then (0-n:Int) else (n:Int))) kR (by simp only[imax2]));refine lL hs [.v 12 (iV 0)] (lN (kZ ?_));refine cTo _ (CG.loop (fun μ_ Γ w_=>∃ (k:Nat) (h_:Hp),μ_=m-k∧Γ=[(1,iV n),(2,pB b1),(4,pB b4),(5,qF),(6,pB b9),(11,iV (max (n:Int) (0-n:Int))),(12,nV k)]∧SS w h w_ h_ [⟨b9,41,qc (powN a k)⟩,⟨b4,41,[qF,uV 0,eS,uV 0,eS]⟩,⟨b1,41,qc a⟩] [] [fun h_=>Tab h_]∧k≤m) _ ⟨0,zd,rfl,rfl,hs.to _ _,Nat.zero_le _⟩ ?_);rintro _ _ _ ⟨k,_,hm15,rfl,hs,hk⟩;have hkK:k*K≤13*K:=Nat.mul_le_mul_right _ oM;have hpk:=lq_powN ha k;refine cSL ?_;cases za:(decide ((k:Int)<(max (n:Int) (0-n:Int):Int)))
 ·
  have zb:=oF za;refine lB 13 za (lN (cQ (cIF (CG.exit ?_))))
  show CG _ _ _ _ _ _ _ _
  refine cQ (cSL (lL hs [.m 18 1] ?_));have ⟨zc,phb17⟩:=dF (p:=(0:Int)≤(n:Int)) oM;refine lB 19 zc (lN (cIF (cK (cQ (cR 5 [] mixed hs al_nil ?_)))));refine eO 1 22 [(0,0,5)] (qv (powN a k)) hs (eC 0 21 hs (fun _ _ hs=>fOf 1 oM oM _ _ hs.g) ?_);rintro _ _ _ _ _ hs rfl;have hq20:=LQ.div (LQ.lit (z:=1) kD) hpk;refine eC 2 23 hs (fun _ _ hs=>fDivN ((1:Int):Rat) (powN a k) (LQ.mono (LQ.lit (z:=1) kD) oM) (LQ.mono hpk oM) (num_nz (powN_nz ha0 k)) _ _ hs.g hs.f.1) ?_;rintro _ _ _ _ _ hs rfl;exact eV 3 24 (qv (((1:Int):Rat)/(powN a k))) (eV 4 25 qT (eD0 hs (fun _ _ hs=>tP 5 1 0 (qc (((1:Int):Rat)/(powN a k))) hs (fun _ hs=>tV 6 5 qT (tN (kX (hs.ret [(1,0,5)] (.tuple #[qv (((1:Int):Rat)/(powN a k)),qT]) (by unfold powq;rw[if_neg oM,show n.natAbs=k by omega]))))))))
 have zb:=oT za;refine lB 13 za (lN (cQ (cIT (cK (cQ (kZ (kQ (lL hs [.o 14 (qv (powN a k)) 0 0 5,.o 15 (qv a) 2 0 5] ?_))))))));have hq26:=LQ.mul hpk ha;refine lC 16 hs (fMul (powN a k) a (LQ.mono hpk oM) (LQ.mono ha oM) _ _ hs.g hs.f.1) ?_;rintro _ _ ze hs rfl;refine lP 0 0 (qc ((powN a k)*a)) hs (fun _ hs=>lN (kQ (lIn 17 ((k:Nat)+1) (k+1) ?_)));refine lL hs [.m 12 17] (lD ?_);intro a_ ka;refine ⟨_,_,?_,⟨k+1,ze,rfl,rfl,hs.to _ _,oM⟩,ka.to _ kR⟩
 omega
theorem tPowerZ (a:Rat)(n:Int)(K:Nat)(hK:14*K+20≤100000000)(ha:LQ K a)(hn : -13≤n∧n≤13)(hs:n<0)(ha0:a=0)(w:World)(h:Hp)(g:G w h)(tb:Tab h):CV 75 #[qv a,iV n] w h (.tuple #[qv 0,.bool false]):=by
 have hs:=((sS g).aB tb);obtain ⟨m,hm⟩:∃ m:Nat,m=n.natAbs:=⟨_,rfl⟩;have hm13:m≤13:=by omega
 refine go Tryz.func75 [(0,qv a),(1,iV n)] rfl (cSL (lA 2 41 (qc a) hs (fun b1 w2 h3 hs=>lA 4 41 ([qF,uV 0,eS,uV 0,eS]) hs (fun b4 w5 h6 hs=>lL hs [.v 5 qF] (lNS (lC 7 hs (fOf 1 oM oM _ _ hs.g) ?_))))));rintro _ w7 h8 hs rfl;refine lA 6 41 ([qF,uV 0,eS,uV 0,eS]) hs (fun b9 _ zd hs=>lP 0 0 (qc ((1:Int):Rat)) hs (fun _ hs=>lN (cQ (cSL (lL hs [.m 8 1,.m 9 1] (lI 10 (0-n) ?_))))));refine lV 11 (iV (max (n:Int) (0-n:Int))) ?_ (hr:=rint (n:=(if (0-n:Int)>(n:Int) then (0-n:Int) else (n:Int))) kR (by simp only[imax2]));refine lL hs [.v 12 (iV 0)] (lN (kZ ?_));refine cTo _ (CG.loop (fun μ_ Γ w_=>∃ (k:Nat) (h_:Hp),μ_=m-k∧Γ=[(1,iV n),(2,pB b1),(4,pB b4),(5,qF),(6,pB b9),(11,iV (max (n:Int) (0-n:Int))),(12,nV k)]∧SS w h w_ h_ [⟨b9,41,qc (powN a k)⟩,⟨b4,41,[qF,uV 0,eS,uV 0,eS]⟩,⟨b1,41,qc a⟩] [] [fun h_=>Tab h_]∧k≤m) _ ⟨0,zd,rfl,rfl,hs.to _ _,Nat.zero_le _⟩ ?_);rintro _ _ _ ⟨k,_,hm15,rfl,hs,hk⟩;have hkK:k*K≤13*K:=Nat.mul_le_mul_right _ oM;have hpk:=lq_powN ha k;refine cSL ?_;cases za:(decide ((k:Int)<(max (n:Int) (0-n:Int):Int)))
 ·
  have zb:=oF za;refine lB 13 za (lN (cQ (cIF (CG.exit ?_))))
  show CG _ _ _ _ _ _ _ _
  refine cQ (cSL (lL hs [.m 18 1] ?_));have ⟨zc,phb17⟩:=dF (p:=(0:Int)≤(n:Int)) oM;refine lB 19 zc (lN (cIF (cK (cQ (cR 5 [] mixed hs al_nil ?_)))));refine eO 1 22 [(0,0,5)] (qv (powN a k)) hs (eC 0 21 hs (fun _ _ hs=>fOf 1 oM oM _ _ hs.g) ?_);rintro _ _ _ _ _ hs rfl;refine eC 2 23 hs (fun _ _ hs=>fDivB ((1:Int):Rat) (powN a k) (by rw[ha0];exact powN_zero oM) _ _ hs.g) ?_;rintro _ _ _ _ _ hs rfl;exact eV 3 24 (qv 0) (eV 4 25 qF (eD0 hs (fun _ _ hs=>tP 5 1 0 (qc 0) hs (fun _ hs=>tV 6 5 qF (tN (kX (hs.ret [(1,0,5)] (.tuple #[qv 0,qF]) rfl)))))))
 have zb:=oT za;refine lB 13 za (lN (cQ (cIT (cK (cQ (kZ (kQ (lL hs [.o 14 (qv (powN a k)) 0 0 5,.o 15 (qv a) 2 0 5] ?_))))))));have hq25:=LQ.mul hpk ha;refine lC 16 hs (fMul (powN a k) a (LQ.mono hpk oM) (LQ.mono ha oM) _ _ hs.g hs.f.1) ?_;rintro _ _ ze hs rfl;refine lP 0 0 (qc ((powN a k)*a)) hs (fun _ hs=>lN (kQ (lIn 17 ((k:Nat)+1) (k+1) ?_)));refine lL hs [.m 12 17] (lD ?_);intro a_ ka;refine ⟨_,_,?_,⟨k+1,ze,rfl,rfl,hs.to _ _,oM⟩,ka.to _ kR⟩
 omega
theorem tPower (a:Rat)(n:Int)(K:Nat)(hK:14*K+20≤100000000)(ha:LQ K a)(hn : -13≤n∧n≤13)(ho:n<0→a≠0)(w:World)(h:Hp)(g:G w h)(tb:Tab h):CV 75 #[qv a,iV n] w h (.tuple #[qv (powq a n),.bool true]):=by
  by_cases hs:0≤n
  · exact tPowerP a n K hK ha hn hs w h g tb
  · exact tPowerN a n K hK ha hn oM (ho oM) w h g tb
theorem tApplyT (s:Stp)(a b:Rat)(K:Nat)(hK:14*K+20≤100000000)(ha:LQ K a)(hb:LQ K b)(hq:LQ 1 s.q)(hK1:1≤K)(hop:1≤s.op∧s.op≤13∧s.op≠2)(hn:s.op=8 → -12≤s.n∧s.n≤12)(hok:okq s.op s.n a b)(w:World)(h:Hp)(g:G w h)(tb:Tab h):CV 64 #[.agg #[iV s.op,iV s.a,iV s.b,iV s.n,.bool (ineg s.q.num),uV (lo (iabs s.q.num)),.string (hi (iabs s.q.num)),uV (lo (qd s.q)),.string (hi (qd s.q))],qv a,qv b] w h (.tuple #[qv (opv s.op s.n s.q a b),.bool true]):=by
 have hs:=((sS g).aB tb);refine go Tryz.func64 [(0,.agg #[iV s.op,iV s.a,iV s.b,iV s.n,.bool (ineg s.q.num),uV (lo (iabs s.q.num)),.string (hi (iabs s.q.num)),uV (lo (qd s.q)),.string (hi (qd s.q))]),(1,qv a),(2,qv b)] rfl (cSL (lA 3 43 ([iV s.op,iV s.a,iV s.b,iV s.n,.bool (ineg s.q.num),uV (lo (iabs s.q.num)),.string (hi (iabs s.q.num)),uV (lo (qd s.q)),.string (hi (qd s.q))]) hs (fun b1 w2 h3 hs=>lA 4 41 (qc a) hs (fun b4 w5 h6 hs=>lA 5 41 (qc b) hs (fun b7 w8 h9 hs=>lA 6 41 ([qF,uV 0,eS,uV 0,eS]) hs (fun b10 _ _ hs=>lL hs [.v 7 qF] (lN (cQ (cSL (lL hs [.v 8 (pB b1),.o 9 (iV s.op) 3 0 1] (lN (kZ (cSL ?_)))))))))))));cases za:((s.op:Int) == (1:Int))
 ·
  have zo:=neOfBeq za;refine lB 11 za (lL hs [.m 10 11] (lN (cIF (cSL ?_))));cases zb:((s.op:Int) == (3:Int))
  ·
   have zp:=neOfBeq zb;refine lB 15 zb (lL hs [.m 14 15] (lN (cIF (cSL ?_))));cases zc:((s.op:Int) == (4:Int))
   ·
    have zq:=neOfBeq zc;refine lB 20 zc (lL hs [.m 19 20] (lN (cIF (cSL ?_))));cases zd:((s.op:Int) == (5:Int))
    ·
     have zr:=neOfBeq zd;refine lB 25 zd (lL hs [.m 24 25] (lN (cIF (cSL ?_))));cases ze:((s.op:Int) == (6:Int))
     ·
      have zs:=neOfBeq ze;refine lB 30 ze (lL hs [.m 29 30] (lN (cIF (cSL ?_))));cases zf:((s.op:Int) == (7:Int))
      ·
       have zt:=neOfBeq zf;refine lB 37 zf (lL hs [.m 36 37] (lN (cIF (cSL ?_))));cases zg:((s.op:Int) == (8:Int))
       ·
        have zu:=neOfBeq zg;refine lB 41 zg (lL hs [.m 40 41] (lN (cIF (cSL ?_))));cases zi:((s.op:Int) == (9:Int))
        ·
         have zv:=neOfBeq zi;refine lB 49 zi (lL hs [.m 48 49] (lN (cIF (cSL ?_))));cases zj:((s.op:Int) == (10:Int))
         ·
          have zw:=neOfBeq zj;refine lB 53 zj (lL hs [.m 52 53] (lN (cIF (cSL ?_))));cases zk:((s.op:Int) == (11:Int))
          ·
           have zx:=neOfBeq zk;refine lB 58 zk (lL hs [.m 57 58] (lN (cIF (cSL ?_))));cases zl:((s.op:Int) == (12:Int))
           ·
            have zA:=neOfBeq zl;refine lB 68 zl (lL hs [.m 67 68] (lN (cIF (cK (cSL (lL hs [.o 72 (qv a) 2 0 5,.o 73 (qv b) 1 0 5] (lC 74 hs (fMin a b (LQ.mono ha oM) (LQ.mono hb oM) _ _ hs.g) ?_)))))));rintro _ _ _ hs rfl;exact lP 0 0 (qc (minR a b)) hs (fun _ hs=>lL hs [.v 7 qT] (lN (kX (hs.ret [(0,0,5)] (.tuple #[qv (minR a b),qT]) (by rw[show s.op=13 by omega];rfl)))))
           have zA:=eq_of_beq zl;refine lB 68 zl (lL hs [.m 67 68] (lN (cIT (cSL (lL hs [.o 69 (qv a) 2 0 5,.o 70 (qv b) 1 0 5] (lC 71 hs (fMax a b (LQ.mono ha oM) (LQ.mono hb oM) _ _ hs.g) ?_))))));rintro _ _ _ hs rfl;exact lP 0 0 (qc (maxR a b)) hs (fun _ hs=>lL hs [.v 7 qT] (lN (kX (hs.ret [(0,0,5)] (.tuple #[qv (maxR a b),qT]) (by rw[show s.op=12 by omega];rfl)))))
          have zx:=eq_of_beq zk;refine lB 58 zk (lL hs [.m 57 58] (lN (cIT (cQ (cR 8 [] mixed hs al_nil ?_)))));refine eO 0 59 [(2,0,5)] (qv a) hs (eO 1 60 [(2,0,5)] (qv a) hs ?_);have zm:LQ (K) (qabs a):=LQ.abs ha;refine eC 2 61 hs (fun _ _ hs=>fAbs a (LQ.mono ha oM) _ _ hs.g) ?_;rintro _ _ _ _ _ hs rfl;refine eC 3 62 hs (fun _ _ hs=>fOf 1 oM oM _ _ hs.g) ?_;rintro _ _ _ _ _ hs rfl;have zn:=LQ.add zm (LQ.lit (z:=1) kD);refine eC 4 63 hs (fun _ _ hs=>fAdd (qabs a) ((1:Int):Rat) (LQ.mono zm oM) (LQ.mono (LQ.lit (z:=1) kD) oM) _ _ hs.g hs.f.1) ?_;rintro _ _ _ _ _ hs rfl;have hq38:=LQ.div ha zn;refine eC 5 64 hs (fun _ _ hs=>fDivN a ((qabs a)+((1:Int):Rat)) (LQ.mono ha oM) (LQ.mono zn oM) (abs_one_ne a) _ _ hs.g hs.f.1) ?_;rintro _ _ _ _ _ hs rfl;exact eV 6 65 (qv (a/((qabs a)+((1:Int):Rat)))) (eV 7 66 qT (eD0 hs (fun _ _ hs=>tP 8 0 0 (qc (a/((qabs a)+((1:Int):Rat)))) hs (fun _ hs=>tV 9 7 qT (tN (kX (hs.ret [(0,0,5)] (.tuple #[qv (a/((qabs a)+((1:Int):Rat))),qT]) (by rw[show s.op=11 by omega];rfl))))))))
         have zw:=eq_of_beq zj;refine lB 53 zj (lL hs [.m 52 53] (lN (cIT (cSL (lL hs [.o 54 (qv a) 2 0 5,.v 55 (qv 0)] (lC 56 hs (fMax a 0 (LQ.mono ha oM) (LQ.mono (LQ.lit (z:=0) kD) oM) _ _ hs.g) ?_))))));rintro _ _ _ hs rfl;exact lP 0 0 (qc (maxR a 0)) hs (fun _ hs=>lL hs [.v 7 qT] (lN (kX (hs.ret [(0,0,5)] (.tuple #[qv (maxR a 0),qT]) (by rw[show s.op=10 by omega];rfl)))))
        have zv:=eq_of_beq zi;refine lB 49 zi (lL hs [.m 48 49] (lN (cIT (cSL (lL hs [.o 50 (qv a) 2 0 5] ?_)))));have hq47:LQ (K) (qabs a):=LQ.abs ha;refine lC 51 hs (fAbs a (LQ.mono ha oM) _ _ hs.g) ?_;rintro _ _ _ hs rfl;exact lP 0 0 (qc (qabs a)) hs (fun _ hs=>lL hs [.v 7 qT] (lN (kX (hs.ret [(0,0,5)] (.tuple #[qv (qabs a),qT]) (by rw[show s.op=9 by omega];rfl)))))
       have zu:=eq_of_beq zg;refine lB 41 zg (lL hs [.m 40 41] (lN (cIT (cSL (lL hs [.o 42 (qv a) 2 0 5,.v 43 (qP b1 3),.o 44 (iV s.n) 3 3 1] (lC 45 hs (tPower a s.n K hK ha (by have:=hn oM;omega) (hok.2 oM) _ _ hs.g hs.f.1) ?_))))));rintro _ _ _ hs rfl;exact lL hs [.v 46 (qv (powq a s.n)),.v 47 qT] (lP 0 0 (qc (powq a s.n)) hs (fun _ hs=>lL hs [.m 7 47] (lN (kX (hs.ret [(0,0,5)] (.tuple #[qv (powq a s.n),qT]) (by rw[show s.op=8 by omega];rfl))))))
      have zt:=eq_of_beq zf;refine lB 37 zf (lL hs [.m 36 37] (lN (cIT (cSL (lL hs [.o 38 (qv a) 2 0 5] ?_)))));have hq54:LQ (K) (-a):=LQ.neg ha;refine lC 39 hs (fNeg a (LQ.mono ha oM) _ _ hs.g) ?_;rintro _ _ _ hs rfl;exact lP 0 0 (qc (-a)) hs (fun _ hs=>lL hs [.v 7 qT] (lN (kX (hs.ret [(0,0,5)] (.tuple #[qv (-a),qT]) (by rw[show s.op=7 by omega];rfl)))))
     have zs:=eq_of_beq ze;refine lB 30 ze (lL hs [.m 29 30] (lN (cIT (cSL (lL hs [.o 31 (qv a) 2 0 5,.o 32 (qv b) 1 0 5] ?_)))));have hq58:=LQ.div ha hb;refine lC 33 hs (fDivN a b (LQ.mono ha oM) (LQ.mono hb oM) (num_nz (hok.1 oM)) _ _ hs.g hs.f.1) ?_;rintro _ _ _ hs rfl;exact lL hs [.v 34 (qv (a/b)),.v 35 qT] (lP 0 0 (qc (a/b)) hs (fun _ hs=>lL hs [.m 7 35] (lN (kX (hs.ret [(0,0,5)] (.tuple #[qv (a/b),qT]) (by rw[show s.op=6 by omega];rfl))))))
    have zr:=eq_of_beq zd;refine lB 25 zd (lL hs [.m 24 25] (lN (cIT (cSL (lL hs [.o 26 (qv a) 2 0 5,.o 27 (qv b) 1 0 5] ?_)))));have hq62:=LQ.mul ha hb;refine lC 28 hs (fMul a b (LQ.mono ha oM) (LQ.mono hb oM) _ _ hs.g hs.f.1) ?_;rintro _ _ _ hs rfl;exact lP 0 0 (qc (a*b)) hs (fun _ hs=>lL hs [.v 7 qT] (lN (kX (hs.ret [(0,0,5)] (.tuple #[qv (a*b),qT]) (by rw[show s.op=5 by omega];rfl)))))
   have zq:=eq_of_beq zc;refine lB 20 zc (lL hs [.m 19 20] (lN (cIT (cSL (lL hs [.o 21 (qv a) 2 0 5,.o 22 (qv b) 1 0 5] ?_)))));have hq66:=LQ.sub ha hb;refine lC 23 hs (fSub a b (LQ.mono ha oM) (LQ.mono hb oM) _ _ hs.g hs.f.1) ?_;rintro _ _ _ hs rfl;exact lP 0 0 (qc (a-b)) hs (fun _ hs=>lL hs [.v 7 qT] (lN (kX (hs.ret [(0,0,5)] (.tuple #[qv (a-b),qT]) (by rw[show s.op=4 by omega];rfl)))))
  have zp:=eq_of_beq zb;refine lB 15 zb (lL hs [.m 14 15] (lN (cIT (cSL (lL hs [.o 16 (qv a) 2 0 5,.o 17 (qv b) 1 0 5] ?_)))));have hq70:=LQ.add ha hb;refine lC 18 hs (fAdd a b (LQ.mono ha oM) (LQ.mono hb oM) _ _ hs.g hs.f.1) ?_;rintro _ _ _ hs rfl;exact lP 0 0 (qc (a+b)) hs (fun _ hs=>lL hs [.v 7 qT] (lN (kX (hs.ret [(0,0,5)] (.tuple #[qv (a+b),qT]) (by rw[show s.op=3 by omega];rfl)))))
 have zo:=eq_of_beq za;exact lB 11 za (lL hs [.m 10 11] (lN (cIT (cSL (lL hs [.v 12 (qP b1 4),.o 13 (qv s.q) 3 4 5] (lP 0 0 (qc s.q) hs (fun _ hs=>lL hs [.v 7 qT] (lN (kX (hs.ret [(0,0,5)] (.tuple #[qv s.q,qT]) (by rw[show s.op=1 by omega];rfl)))))))))))
theorem tApply6 (s:Stp)(a b:Rat)(K:Nat)(hK:14*K+20≤100000000)(ha:LQ K a)(hb:LQ K b)(hq:LQ 1 s.q)(hK1:1≤K)(hop:s.op=6)(hz6:b=0)(w:World)(h:Hp)(g:G w h)(tb:Tab h):CV 64 #[.agg #[iV s.op,iV s.a,iV s.b,iV s.n,.bool (ineg s.q.num),uV (lo (iabs s.q.num)),.string (hi (iabs s.q.num)),uV (lo (qd s.q)),.string (hi (qd s.q))],qv a,qv b] w h (.tuple #[qv 0,.bool false]):=by
 have hs:=((sS g).aB tb);refine go Tryz.func64 [(0,.agg #[iV s.op,iV s.a,iV s.b,iV s.n,.bool (ineg s.q.num),uV (lo (iabs s.q.num)),.string (hi (iabs s.q.num)),uV (lo (qd s.q)),.string (hi (qd s.q))]),(1,qv a),(2,qv b)] rfl (cSL (lA 3 43 ([iV s.op,iV s.a,iV s.b,iV s.n,.bool (ineg s.q.num),uV (lo (iabs s.q.num)),.string (hi (iabs s.q.num)),uV (lo (qd s.q)),.string (hi (qd s.q))]) hs (fun b1 w2 h3 hs=>lA 4 41 (qc a) hs (fun b4 w5 h6 hs=>lA 5 41 (qc b) hs (fun b7 w8 h9 hs=>lA 6 41 ([qF,uV 0,eS,uV 0,eS]) hs (fun b10 _ _ hs=>lL hs [.v 7 qF] (lN (cQ (cSL (lL hs [.v 8 (pB b1),.o 9 (iV s.op) 3 0 1] (lN (kZ (cSL ?_)))))))))))));have za:((s.op:Int) == (1:Int))=false:=beqF oM;have phb13:=neOfBeq za;refine lB 11 za (lL hs [.m 10 11] (lN (cIF (cSL ?_))));have zb:((s.op:Int) == (3:Int))=false:=beqF oM;have phb14:=neOfBeq zb;refine lB 15 zb (lL hs [.m 14 15] (lN (cIF (cSL ?_))));have zc:((s.op:Int) == (4:Int))=false:=beqF oM;have phb15:=neOfBeq zc;refine lB 20 zc (lL hs [.m 19 20] (lN (cIF (cSL ?_))));have zd:((s.op:Int) == (5:Int))=false:=beqF oM;have phb16:=neOfBeq zd;refine lB 25 zd (lL hs [.m 24 25] (lN (cIF (cSL ?_))));have ze:((s.op:Int) == (6:Int))=true:=beqT oM;have phb17:=eq_of_beq ze;refine lB 30 ze (lL hs [.m 29 30] (lN (cIT (cSL (lL hs [.o 31 (qv a) 2 0 5,.o 32 (qv b) 1 0 5] (lC 33 hs (fDivB a b hz6 _ _ hs.g) ?_))))));rintro _ _ _ hs rfl;exact lL hs [.v 34 (qv 0),.v 35 qF] (lP 0 0 (qc 0) hs (fun _ hs=>lL hs [.m 7 35] (lN (kX (hs.ret [(0,0,5)] (.tuple #[qv 0,qF]) rfl)))))
theorem tApply8 (s:Stp)(a b:Rat)(K:Nat)(hK:14*K+20≤100000000)(ha:LQ K a)(hb:LQ K b)(hq:LQ 1 s.q)(hK1:1≤K)(hop:s.op=8)(hn : -12≤s.n∧s.n<0)(hz8:a=0)(w:World)(h:Hp)(g:G w h)(tb:Tab h):CV 64 #[.agg #[iV s.op,iV s.a,iV s.b,iV s.n,.bool (ineg s.q.num),uV (lo (iabs s.q.num)),.string (hi (iabs s.q.num)),uV (lo (qd s.q)),.string (hi (qd s.q))],qv a,qv b] w h (.tuple #[qv 0,.bool false]):=by
 have hs:=((sS g).aB tb);refine go Tryz.func64 [(0,.agg #[iV s.op,iV s.a,iV s.b,iV s.n,.bool (ineg s.q.num),uV (lo (iabs s.q.num)),.string (hi (iabs s.q.num)),uV (lo (qd s.q)),.string (hi (qd s.q))]),(1,qv a),(2,qv b)] rfl (cSL (lA 3 43 ([iV s.op,iV s.a,iV s.b,iV s.n,.bool (ineg s.q.num),uV (lo (iabs s.q.num)),.string (hi (iabs s.q.num)),uV (lo (qd s.q)),.string (hi (qd s.q))]) hs (fun b1 w2 h3 hs=>lA 4 41 (qc a) hs (fun b4 w5 h6 hs=>lA 5 41 (qc b) hs (fun b7 w8 h9 hs=>lA 6 41 ([qF,uV 0,eS,uV 0,eS]) hs (fun b10 _ _ hs=>lL hs [.v 7 qF] (lN (cQ (cSL (lL hs [.v 8 (pB b1),.o 9 (iV s.op) 3 0 1] (lN (kZ (cSL ?_)))))))))))));have za:((s.op:Int) == (1:Int))=false:=beqF oM;have phb13:=neOfBeq za;refine lB 11 za (lL hs [.m 10 11] (lN (cIF (cSL ?_))));have zb:((s.op:Int) == (3:Int))=false:=beqF oM;have phb14:=neOfBeq zb;refine lB 15 zb (lL hs [.m 14 15] (lN (cIF (cSL ?_))));have zc:((s.op:Int) == (4:Int))=false:=beqF oM;have phb15:=neOfBeq zc;refine lB 20 zc (lL hs [.m 19 20] (lN (cIF (cSL ?_))));have zd:((s.op:Int) == (5:Int))=false:=beqF oM;have phb16:=neOfBeq zd;refine lB 25 zd (lL hs [.m 24 25] (lN (cIF (cSL ?_))));have ze:((s.op:Int) == (6:Int))=false:=beqF oM;have phb17:=neOfBeq ze;refine lB 30 ze (lL hs [.m 29 30] (lN (cIF (cSL ?_))));have zf:((s.op:Int) == (7:Int))=false:=beqF oM;have phb18:=neOfBeq zf;refine lB 37 zf (lL hs [.m 36 37] (lN (cIF (cSL ?_))));have zg:((s.op:Int) == (8:Int))=true:=beqT oM;have phb19:=eq_of_beq zg;refine lB 41 zg (lL hs [.m 40 41] (lN (cIT (cSL (lL hs [.o 42 (qv a) 2 0 5,.v 43 (qP b1 3),.o 44 (iV s.n) 3 3 1] (lC 45 hs (tPowerZ a s.n K hK ha oM oM hz8 _ _ hs.g hs.f.1) ?_))))));rintro _ _ _ hs rfl;exact lL hs [.v 46 (qv 0),.v 47 qF] (lP 0 0 (qc 0) hs (fun _ hs=>lL hs [.m 7 47] (lN (kX (hs.ret [(0,0,5)] (.tuple #[qv 0,qF]) rfl)))))
def apv (op n:Int)(q a b:Rat):Rat:=if okq op n a b then opv op n q a b else 0
theorem tApply (s:Stp)(a b:Rat)(K:Nat)(hK:14*K+20≤100000000)(ha:LQ K a)(hb:LQ K b)(hq:LQ 1 s.q)(hK1:1≤K)(hop:1≤s.op∧s.op≤13∧s.op≠2)(hn:s.op=8 → -12≤s.n∧s.n≤12)(w:World)(h:Hp)(g:G w h)(tb:Tab h):CV 64 #[stv s,qv a,qv b] w h (.tuple #[qv (apv s.op s.n s.q a b),.bool (decide (okq s.op s.n a b))]):=by
  by_cases hok:okq s.op s.n a b
  · unfold apv;rw[if_pos hok,decide_eq_true hok];exact tApplyT s a b K hK ha hb hq hK1 hop hn hok w h g tb
  · unfold apv;rw[if_neg hok,decide_eq_false hok]
    by_cases h6:s.op=6∧b=0
    · exact tApply6 s a b K hK ha hb hq hK1 h6.1 h6.2 w h g tb
    · by_cases h8:s.op=8∧s.n<0∧a=0
      · exact tApply8 s a b K hK ha hb hq hK1 h8.1 ⟨(hn h8.1).1,h8.2.1⟩ h8.2.2 w h g tb
      · exact absurd ⟨fun x y=>h6 ⟨x,y⟩,fun x y z=>h8 ⟨x,y,z⟩⟩ hok
theorem tKinked (s:Stp)(a b:Rat)(K:Nat)(hK:K≤100000000)(ha:LQ K a)(hb:LQ K b)(w:World)(h:Hp)(g:G w h):CV 65 #[.agg #[iV s.op,iV s.a,iV s.b,iV s.n,.bool (ineg s.q.num),uV (lo (iabs s.q.num)),.string (hi (iabs s.q.num)),uV (lo (qd s.q)),.string (hi (qd s.q))],qv a,qv b] w h (.bool (decide (knk s.op a b))):=by
 have hs:=sS g;refine go Tryz.func65 [(0,.agg #[iV s.op,iV s.a,iV s.b,iV s.n,.bool (ineg s.q.num),uV (lo (iabs s.q.num)),.string (hi (iabs s.q.num)),uV (lo (qd s.q)),.string (hi (qd s.q))]),(1,qv a),(2,qv b)] rfl (cSL (lA 3 43 ([iV s.op,iV s.a,iV s.b,iV s.n,.bool (ineg s.q.num),uV (lo (iabs s.q.num)),.string (hi (iabs s.q.num)),uV (lo (qd s.q)),.string (hi (qd s.q))]) hs (fun b1 w2 h3 hs=>lA 4 41 (qc a) hs (fun b4 w5 h6 hs=>lA 5 41 (qc b) hs (fun b7 w8 h9 hs=>lL hs [.v 6 qF] (lN (cQ (cSL (lL hs [.v 7 (pB b1),.o 8 (iV s.op) 2 0 1] (lN (kZ (cQ (cSL (lL hs [.v 10 (.bool ((s.op:Int) == (9:Int))),.m 9 10] (lN ?_)))))))))))))));cases za:((s.op:Int) == (9:Int))
 ·
  try rw[za] at hs
  try rw[za]
  have ze:=neOfBeq za;refine cIF (kQ (lL hs [.v 11 (.bool ((s.op:Int) == (10:Int))),.m 9 11] (lN ?_)));cases zb:((s.op:Int) == (10:Int))
  ·
   try rw[zb] at hs
   try rw[zb]
   have zf:=neOfBeq zb;refine cIF (cQ (cSL (lL hs [.v 16 (.bool ((s.op:Int) == (12:Int))),.m 15 16] (lN ?_))));cases zc:((s.op:Int) == (12:Int))
   ·
    try rw[zc] at hs
    try rw[zc]
    have zg:=neOfBeq zc;refine cIF (kQ (lL hs [.v 17 (.bool ((s.op:Int) == (13:Int))),.m 15 17] (lN ?_)));cases zd:((s.op:Int) == (13:Int))
    ·
     try rw[zd] at hs
     try rw[zd]
     have zi:=neOfBeq zd;exact cIF (cK (cSL (lL hs [.v 6 qF] (lN (kX (hs.ret [] qF (congrArg Value.bool (knk_0 oM))))))))
    try rw[zd] at hs
    try rw[zd]
    have zi:=eq_of_beq zd;refine cIT (cSL (lL hs [.o 18 (qv a) 1 0 5,.o 19 (qv b) 0 0 5] (lC 20 hs (fCmp a b (LQ.mono ha oM) (LQ.mono hb oM) _ _ hs.g) ?_)));rintro _ _ _ hs rfl;exact lL hs [.v 21 (.bool ((cmpR a b:Int) == (0:Int))),.m 6 21] (lN (kX (hs.ret [] (.bool ((cmpR a b:Int) == (0:Int))) (congrArg Value.bool (knk_2 oM)))))
   try rw[zc] at hs
   try rw[zc]
   have zg:=eq_of_beq zc;refine cIT (cK (cIT (cSL (lL hs [.o 18 (qv a) 1 0 5,.o 19 (qv b) 0 0 5] (lC 20 hs (fCmp a b (LQ.mono ha oM) (LQ.mono hb oM) _ _ hs.g) ?_)))));rintro _ _ _ hs rfl;exact lL hs [.v 21 (.bool ((cmpR a b:Int) == (0:Int))),.m 6 21] (lN (kX (hs.ret [] (.bool ((cmpR a b:Int) == (0:Int))) (congrArg Value.bool (knk_2 oM)))))
  try rw[zb] at hs
  try rw[zb]
  have zf:=eq_of_beq zb;refine cIT (cSL (lL hs [.o 12 (qv a) 1 0 5] (lC 13 hs (fSign a (LQ.mono ha oM) _ _ hs.g) ?_)));rintro _ _ _ hs rfl;exact lL hs [.v 14 (.bool ((a.num.sign:Int) == (0:Int))),.m 6 14] (lN (kX (hs.ret [] (.bool ((a.num.sign:Int) == (0:Int))) (congrArg Value.bool (knk_1 oM)))))
 try rw[za] at hs
 try rw[za]
 have ze:=eq_of_beq za;refine cIT (cK (cIT (cSL (lL hs [.o 12 (qv a) 1 0 5] (lC 13 hs (fSign a (LQ.mono ha oM) _ _ hs.g) ?_)))));rintro _ _ _ hs rfl;exact lL hs [.v 14 (.bool ((a.num.sign:Int) == (0:Int))),.m 6 14] (lN (kX (hs.ret [] (.bool ((a.num.sign:Int) == (0:Int))) (congrArg Value.bool (knk_1 oM)))))
theorem tSlopes (s:Stp)(a b:Rat)(K:Nat)(hK:14*K+20≤100000000)(ha:LQ K a)(hb:LQ K b)(hq:LQ 1 s.q)(hK1:1≤K)(hop:1≤s.op∧s.op≤13∧s.op≠2)(hn:s.op=8 → -12≤s.n∧s.n≤12)(hok6:s.op=6→b≠0)(hok:s.op=8→s.n<0→a≠0)(w:World)(h:Hp)(g:G w h)(tb:Tab h):CV 37 #[.agg #[iV s.op,iV s.a,iV s.b,iV s.n,.bool (ineg s.q.num),uV (lo (iabs s.q.num)),.string (hi (iabs s.q.num)),uV (lo (qd s.q)),.string (hi (qd s.q))],qv a,qv b] w h (.tuple #[qv (sla s.op s.n a b),qv (slb s.op a b)]):=by
 have hs:=((sS g).aB tb);have hsg:=sign_bd a.num;refine go Tryz.func37 [(0,.agg #[iV s.op,iV s.a,iV s.b,iV s.n,.bool (ineg s.q.num),uV (lo (iabs s.q.num)),.string (hi (iabs s.q.num)),uV (lo (qd s.q)),.string (hi (qd s.q))]),(1,qv a),(2,qv b)] rfl (cSL (lA 3 43 ([iV s.op,iV s.a,iV s.b,iV s.n,.bool (ineg s.q.num),uV (lo (iabs s.q.num)),.string (hi (iabs s.q.num)),uV (lo (qd s.q)),.string (hi (qd s.q))]) hs (fun b1 w2 h3 hs=>lA 4 41 (qc a) hs (fun b4 w5 h6 hs=>lA 5 41 (qc b) hs (fun b7 w8 h9 hs=>lA 6 41 ([qF,uV 0,eS,uV 0,eS]) hs (fun za _ _ hs=>lA 7 41 ([qF,uV 0,eS,uV 0,eS]) hs (fun zb _ _ hs=>lNS (lC 10 hs (fOf 1 oM oM _ _ hs.g) ?_))))))));rintro _ _ _ hs rfl;refine lL hs [.v 11 (qv 0)] (lA 8 41 ([qF,uV 0,eS,uV 0,eS]) hs (fun zu _ _ hs=>lA 9 41 ([qF,uV 0,eS,uV 0,eS]) hs (fun ze _ _ hs=>lP 1 0 (qc ((1:Int):Rat)) hs (fun _ hs=>lP 0 0 (qc 0) hs (fun _ hs=>lN (cQ (cSL (lL hs [.v 12 (pB b1),.o 13 (iV s.op) 6 0 1] (lN (kZ (cSL ?_)))))))))));cases zf:((s.op:Int) == (3:Int))
 ·
  have zG:=neOfBeq zf;refine lB 15 zf (lL hs [.m 14 15] (lN (cIF (cSL ?_))));cases zg:((s.op:Int) == (4:Int))
  ·
   have zH:=neOfBeq zg;refine lB 19 zg (lL hs [.m 18 19] (lN (cIF (cSL ?_))));cases zi:((s.op:Int) == (5:Int))
   ·
    have zI:=neOfBeq zi;refine lB 24 zi (lL hs [.m 23 24] (lN (cIF (cSL ?_))));cases zj:((s.op:Int) == (6:Int))
    ·
     have zJ:=neOfBeq zj;refine lB 28 zj (lL hs [.m 27 28] (lN (cIF (cSL ?_))));cases zk:((s.op:Int) == (7:Int))
     ·
      have zK:=neOfBeq zk;refine lB 43 zk (lL hs [.m 42 43] (lN (cIF (cSL ?_))));cases zl:((s.op:Int) == (8:Int))
      ·
       have zL:=neOfBeq zl;refine lB 48 zl (lL hs [.m 47 48] (lN (cIF (cSL ?_))));cases zm:((s.op:Int) == (9:Int))
       ·
        have zM:=neOfBeq zm;refine lB 69 zm (lL hs [.m 68 69] (lN (cIF (cSL ?_))));cases zn:((s.op:Int) == (10:Int))
        ·
         have zN:=neOfBeq zn;refine lB 75 zn (lL hs [.m 74 75] (lN (cIF (cSL ?_))));cases zo:((s.op:Int) == (11:Int))
         ·
          have zP:=neOfBeq zo;refine lB 82 zo (lL hs [.m 81 82] (lN (cIF (cQ (cSL ?_)))));cases zp:((s.op:Int) == (12:Int))
          ·
           have zQ:=neOfBeq zp;refine lB 97 zp (lL hs [.m 96 97] (lN (cIF (kQ ?_))));cases zq:((s.op:Int) == (13:Int))
           ·
            have zR:=neOfBeq zq;refine lB 98 zq (lL hs [.m 96 98] (lN (cIF (cK (cQ ?_)))));have hsr:=hs;refine cRz 2 [] [za,zb] mixed hs al_nil (eO 0 111 [(0,0,5)] (qv 0) hs (eOz 1 112 [(0,0,5)] (qv 0) hsr hs ?_ (hM:=fun p hp=>by obtain rfl:=List.mem_singleton.1 hp;exact fun hm=>by rcases List.mem_cons.1 hm with e|hm;exact bx_ne hs.st (i:=0) (j:=3) kR kR kR e;rcases List.mem_cons.1 hm with e|hm;exact bx_ne hs.st (i:=0) (j:=2) kR kR kR e;cases hm)));refine eD0 hs (fun _ _ hs=>tP 2 3 0 (qc 0) hs (fun _ hs=>?_) (hz:=tlz_mem (List.mem_cons_self)));refine tP 3 2 0 (qc 0) hs (fun _ hs=>?_) (hz:=tlz_mem (List.mem_cons_of_mem _<|List.mem_cons_self));exact tN (kX (hs.ret [(3,0,5),(2,0,5)] (.tuple #[qv 0,qv 0]) (by rw[show s.op=1 by omega];rfl)))
           have zR:=eq_of_beq zq;refine lB 98 zq (lL hs [.m 96 98] (lN (cIT (cQ (cQ (cR 8 [] mixed hs al_nil ?_))))));refine eO 0 99 [(5,0,5)] (qv a) hs (eO 1 100 [(4,0,5)] (qv b) hs (eV 4 103 (pB b1) (eO 5 104 [(6,0,1)] (iV s.op) hs ?_)));have zA:((s.op:Int) == (12:Int))=false:=beqF oM;have phb41:=neOfBeq zA;refine eB 6 105 zA (eC 2 101 hs (fun _ _ hs=>fCmp a b (LQ.mono ha oM) (LQ.mono hb oM) _ _ hs.g) ?_);rintro _ _ _ _ _ hs rfl;cases zr:(decide ((0:Int)<(cmpR a b:Int)))
           ·
            have zS:=oF zr;refine eB 3 102 zr (eV 7 106 qT (eD0 hs (fun _ _ hs=>tN (cTo [(6,pB za),(7,pB zb),(8,pB zu),(9,pB ze),(106,qT)] ?_))));refine cIT (cQ ?_);have hsr:=hs;refine cRz 2 [] [za,zb] mixed hs al_nil (eO 0 107 [(1,0,5)] (qv ((1:Int):Rat)) hs (eOz 1 108 [(0,0,5)] (qv 0) hsr hs ?_ (hM:=fun p hp=>by obtain rfl:=List.mem_singleton.1 hp;exact fun hm=>by rcases List.mem_cons.1 hm with e|hm;exact bx_ne hs.st (i:=0) (j:=3) kR kR kR e;rcases List.mem_cons.1 hm with e|hm;exact bx_ne hs.st (i:=0) (j:=2) kR kR kR e;cases hm)));refine eD0 hs (fun _ _ hs=>tP 2 3 0 (qc ((1:Int):Rat)) hs (fun _ hs=>?_) (hz:=tlz_mem (List.mem_cons_self)));refine tP 3 2 0 (qc 0) hs (fun _ hs=>?_) (hz:=tlz_mem (List.mem_cons_of_mem _<|List.mem_cons_self));exact tN (kX (hs.ret [(3,0,5),(2,0,5)] (.tuple #[qv ((1:Int):Rat),qv 0]) (slm_29 oM oM)))
           have zS:=oT zr;refine eB 3 102 zr (eV 7 106 qF (eD0 hs (fun _ _ hs=>tN (cTo [(6,pB za),(7,pB zb),(8,pB zu),(9,pB ze),(106,qF)] ?_))));refine cIF (cK (cQ ?_));have hsr:=hs;refine cRz 2 [] [za,zb] mixed hs al_nil (eO 0 109 [(0,0,5)] (qv 0) hs (eOz 1 110 [(1,0,5)] (qv ((1:Int):Rat)) hsr hs ?_ (hM:=fun p hp=>by obtain rfl:=List.mem_singleton.1 hp;exact fun hm=>by rcases List.mem_cons.1 hm with e|hm;exact bx_ne hs.st (i:=1) (j:=3) kR kR kR e;rcases List.mem_cons.1 hm with e|hm;exact bx_ne hs.st (i:=1) (j:=2) kR kR kR e;cases hm)));refine eD0 hs (fun _ _ hs=>tP 2 3 0 (qc 0) hs (fun _ hs=>?_) (hz:=tlz_mem (List.mem_cons_self)));refine tP 3 2 0 (qc ((1:Int):Rat)) hs (fun _ hs=>?_) (hz:=tlz_mem (List.mem_cons_of_mem _<|List.mem_cons_self));exact tN (kX (hs.ret [(3,0,5),(2,0,5)] (.tuple #[qv 0,qv ((1:Int):Rat)]) (slm_30 oM oM)))
          have zQ:=eq_of_beq zp;refine lB 97 zp (lL hs [.m 96 97] (lN (cIT (cK (cIT (cQ (cQ (cR 8 [] mixed hs al_nil ?_))))))));refine eO 0 99 [(5,0,5)] (qv a) hs (eO 1 100 [(4,0,5)] (qv b) hs (eV 4 103 (pB b1) (eO 5 104 [(6,0,1)] (iV s.op) hs ?_)));have zB:((s.op:Int) == (12:Int))=true:=beqT oM;have phb57:=eq_of_beq zB;refine eB 6 105 zB (eC 2 101 hs (fun _ _ hs=>fCmp a b (LQ.mono ha oM) (LQ.mono hb oM) _ _ hs.g) ?_);rintro _ _ _ _ _ hs rfl;cases zs:(decide ((0:Int)<(cmpR a b:Int)))
          ·
           have zT:=oF zs;refine eB 3 102 zs (eV 7 106 qF (eD0 hs (fun _ _ hs=>tN (cTo [(6,pB za),(7,pB zb),(8,pB zu),(9,pB ze),(106,qF)] ?_))));refine cIF (cK (cQ ?_));have hsr:=hs;refine cRz 2 [] [za,zb] mixed hs al_nil (eO 0 109 [(0,0,5)] (qv 0) hs (eOz 1 110 [(1,0,5)] (qv ((1:Int):Rat)) hsr hs ?_ (hM:=fun p hp=>by obtain rfl:=List.mem_singleton.1 hp;exact fun hm=>by rcases List.mem_cons.1 hm with e|hm;exact bx_ne hs.st (i:=1) (j:=3) kR kR kR e;rcases List.mem_cons.1 hm with e|hm;exact bx_ne hs.st (i:=1) (j:=2) kR kR kR e;cases hm)));refine eD0 hs (fun _ _ hs=>tP 2 3 0 (qc 0) hs (fun _ hs=>?_) (hz:=tlz_mem (List.mem_cons_self)));refine tP 3 2 0 (qc ((1:Int):Rat)) hs (fun _ hs=>?_) (hz:=tlz_mem (List.mem_cons_of_mem _<|List.mem_cons_self));exact tN (kX (hs.ret [(3,0,5),(2,0,5)] (.tuple #[qv 0,qv ((1:Int):Rat)]) (slm_30 oM oM)))
          have zT:=oT zs;refine eB 3 102 zs (eV 7 106 qT (eD0 hs (fun _ _ hs=>tN (cTo [(6,pB za),(7,pB zb),(8,pB zu),(9,pB ze),(106,qT)] ?_))));refine cIT (cQ ?_);have hsr:=hs;refine cRz 2 [] [za,zb] mixed hs al_nil (eO 0 107 [(1,0,5)] (qv ((1:Int):Rat)) hs (eOz 1 108 [(0,0,5)] (qv 0) hsr hs ?_ (hM:=fun p hp=>by obtain rfl:=List.mem_singleton.1 hp;exact fun hm=>by rcases List.mem_cons.1 hm with e|hm;exact bx_ne hs.st (i:=0) (j:=3) kR kR kR e;rcases List.mem_cons.1 hm with e|hm;exact bx_ne hs.st (i:=0) (j:=2) kR kR kR e;cases hm)));refine eD0 hs (fun _ _ hs=>tP 2 3 0 (qc ((1:Int):Rat)) hs (fun _ hs=>?_) (hz:=tlz_mem (List.mem_cons_self)));refine tP 3 2 0 (qc 0) hs (fun _ hs=>?_) (hz:=tlz_mem (List.mem_cons_of_mem _<|List.mem_cons_self));exact tN (kX (hs.ret [(3,0,5),(2,0,5)] (.tuple #[qv ((1:Int):Rat),qv 0]) (slm_29 oM oM)))
         have zP:=eq_of_beq zo;refine lB 82 zo (lL hs [.m 81 82] (lN (cIT (cQ (cR 9 [] mixed hs al_nil ?_)))));refine eO 0 84 [(1,0,5)] (qv ((1:Int):Rat)) hs (eO 1 85 [(1,0,5)] (qv ((1:Int):Rat)) hs (eO 2 86 [(5,0,5)] (qv a) hs ?_));have zD:LQ (K) (qabs a):=LQ.abs ha;refine eC 3 87 hs (fun _ _ hs=>fAbs a (LQ.mono ha oM) _ _ hs.g) ?_;rintro _ _ _ _ _ hs rfl;have zE:=LQ.add (LQ.lit (z:=1) kD) zD;refine eC 4 88 hs (fun _ _ hs=>fAdd ((1:Int):Rat) (qabs a) (LQ.mono (LQ.lit (z:=1) kD) oM) (LQ.mono zD oM) _ _ hs.g hs.f.1) ?_;rintro _ _ _ _ _ hs rfl;have zt:=LQ.div (LQ.lit (z:=1) kD) zE;refine eC 5 89 hs (fun _ _ hs=>fDivN ((1:Int):Rat) (((1:Int):Rat)+(qabs a)) (LQ.mono (LQ.lit (z:=1) kD) oM) (LQ.mono zE oM) (one_abs_ne a) _ _ hs.g hs.f.1) ?_;rintro _ _ _ _ _ hs rfl;refine eV 6 83 (.tuple #[qv (((1:Int):Rat)/(((1:Int):Rat)+(qabs a))),qT]) (eV 7 90 (qv (((1:Int):Rat)/(((1:Int):Rat)+(qabs a)))) (eV 8 91 qT (eD0 hs (fun _ _ hs=>tP 9 3 0 (qc (((1:Int):Rat)/(((1:Int):Rat)+(qabs a)))) hs (fun _ hs=>tN (cTo [(6,pB za),(7,pB zb),(9,pB ze)] ?_))))));refine cQ ?_;have hsr:=hs;refine cRz 4 [] [za,zb] mixed hs al_nil (eO 0 92 [(3,0,5)] (qv (((1:Int):Rat)/(((1:Int):Rat)+(qabs a)))) hs (eO 1 93 [(3,0,5)] (qv (((1:Int):Rat)/(((1:Int):Rat)+(qabs a)))) hs (eOz 3 95 [(0,0,5)] (qv 0) hsr hs ?_ (hM:=fun p hp=>by obtain rfl:=List.mem_singleton.1 hp;exact fun hm=>by rcases List.mem_cons.1 hm with e|hm;exact bx_ne hs.st (i:=0) (j:=3) kR kR kR e;rcases List.mem_cons.1 hm with e|hm;exact bx_ne hs.st (i:=0) (j:=2) kR kR kR e;cases hm))));have hq85:=LQ.mul zt zt;refine eC 2 94 hs (fun _ _ hs=>fMul (((1:Int):Rat)/(((1:Int):Rat)+(qabs a))) (((1:Int):Rat)/(((1:Int):Rat)+(qabs a))) (LQ.mono zt oM) (LQ.mono zt oM) _ _ hs.g hs.f.1) ?_;rintro _ _ _ _ _ hs rfl;refine eD0 hs (fun _ _ hs=>tP 4 3 0 (qc ((((1:Int):Rat)/(((1:Int):Rat)+(qabs a)))*(((1:Int):Rat)/(((1:Int):Rat)+(qabs a))))) hs (fun _ hs=>?_) (hz:=tlz_mem (List.mem_cons_self)));refine tP 5 2 0 (qc 0) hs (fun _ hs=>?_) (hz:=tlz_mem (List.mem_cons_of_mem _<|List.mem_cons_self));exact tN (kX (hs.ret [(3,0,5),(2,0,5)] (.tuple #[qv ((((1:Int):Rat)/(((1:Int):Rat)+(qabs a)))*(((1:Int):Rat)/(((1:Int):Rat)+(qabs a)))),qv 0]) (by rw[show s.op=11 by omega];rfl)))
        have zN:=eq_of_beq zn;refine lB 75 zn (lL hs [.m 74 75] (lN (cIT (cQ ?_))));have hsr:=hs;refine cRz 5 [] [za,zb] mixed hs al_nil (eO 0 76 [(5,0,5)] (qv a) hs (eOz 4 80 [(0,0,5)] (qv 0) hsr hs ?_ (hM:=fun p hp=>by obtain rfl:=List.mem_singleton.1 hp;exact fun hm=>by rcases List.mem_cons.1 hm with e|hm;exact bx_ne hs.st (i:=0) (j:=3) kR kR kR e;rcases List.mem_cons.1 hm with e|hm;exact bx_ne hs.st (i:=0) (j:=2) kR kR kR e;cases hm)));refine eC 1 77 hs (fun _ _ hs=>fSign a (LQ.mono ha oM) _ _ hs.g) ?_;rintro _ _ _ _ _ hs rfl;refine eV 2 78 (iV (max (a.num.sign:Int) (0:Int))) ?_ (hv:=fun _=>rint (n:=(if (0:Int)>(a.num.sign:Int) then (0:Int) else (a.num.sign:Int))) kR (by simp only[imax2]));have hq94:LQ (1) (((max (a.num.sign:Int) (0:Int):Int):Rat)):=LQ.int oM oM;refine eC 3 79 hs (fun _ _ hs=>fOf (max (a.num.sign:Int) (0:Int)) oM oM _ _ hs.g) ?_;rintro _ _ _ _ _ hs rfl;refine eD0 hs (fun _ _ hs=>tP 5 3 0 (qc ((max (a.num.sign:Int) (0:Int):Int):Rat)) hs (fun _ hs=>?_) (hz:=tlz_mem (List.mem_cons_self)));refine tP 6 2 0 (qc 0) hs (fun _ hs=>?_) (hz:=tlz_mem (List.mem_cons_of_mem _<|List.mem_cons_self));exact tN (kX (hs.ret [(3,0,5),(2,0,5)] (.tuple #[qv ((max (a.num.sign:Int) (0:Int):Int):Rat),qv 0]) (by rw[show s.op=10 by omega];rfl)))
       have zM:=eq_of_beq zm;refine lB 69 zm (lL hs [.m 68 69] (lN (cIT (cQ ?_))));have hsr:=hs;refine cRz 4 [] [za,zb] mixed hs al_nil (eO 0 70 [(5,0,5)] (qv a) hs (eOz 3 73 [(0,0,5)] (qv 0) hsr hs ?_ (hM:=fun p hp=>by obtain rfl:=List.mem_singleton.1 hp;exact fun hm=>by rcases List.mem_cons.1 hm with e|hm;exact bx_ne hs.st (i:=0) (j:=3) kR kR kR e;rcases List.mem_cons.1 hm with e|hm;exact bx_ne hs.st (i:=0) (j:=2) kR kR kR e;cases hm)));refine eC 1 71 hs (fun _ _ hs=>fSign a (LQ.mono ha oM) _ _ hs.g) ?_;rintro _ _ _ _ _ hs rfl;have hq103:LQ (1) (((a.num.sign:Int):Rat)):=LQ.int oM oM;refine eC 2 72 hs (fun _ _ hs=>fOf a.num.sign oM oM _ _ hs.g) ?_;rintro _ _ _ _ _ hs rfl;refine eD0 hs (fun _ _ hs=>tP 4 3 0 (qc ((a.num.sign:Int):Rat)) hs (fun _ hs=>?_) (hz:=tlz_mem (List.mem_cons_self)));refine tP 5 2 0 (qc 0) hs (fun _ hs=>?_) (hz:=tlz_mem (List.mem_cons_of_mem _<|List.mem_cons_self));exact tN (kX (hs.ret [(3,0,5),(2,0,5)] (.tuple #[qv ((a.num.sign:Int):Rat),qv 0]) (by rw[show s.op=9 by omega];rfl)))
      have zL:=eq_of_beq zl;refine lB 48 zl (lL hs [.m 47 48] (lN (cIT (cQ (cSL (lL hs [.v 49 (qP b1 3),.o 50 (iV s.n) 6 3 1] ?_))))));cases zc:((s.n:Int) == (0:Int))
      ·
       have zF:=neOfBeq zc;refine lB 51 zc (lN (cIF (cK (cSL (lL hs [.o 55 (qv a) 5 0 5,.v 56 (qP b1 3),.o 57 (iV s.n) 6 3 1] (lI 58 (s.n-1) ?_))))));refine lC 59 hs (tPower a (s.n-1) K hK ha (by have:=hn oM;omega) (fun h0=>hok oM oM) _ _ hs.g hs.f.1) ?_;rintro _ _ _ hs rfl;have hpw:=lq_powq (n:=s.n-1) hK1 ha (by have:=hn oM;omega);refine lL hs [.m 54 59,.v 60 (qv (powq a (s.n-1))),.v 61 qT] (lP 3 0 (qc (powq a (s.n-1))) hs (fun _ hs=>lN (cQ ?_)));have hsr:=hs;refine cRz 6 [] [za,zb] mixed hs al_nil (eO 0 62 [(3,0,5)] (qv (powq a (s.n-1))) hs (eV 1 63 (qP b1 3) (eO 2 64 [(6,3,1)] (iV s.n) hs (eOz 5 67 [(0,0,5)] (qv 0) hsr hs ?_ (hM:=fun p hp=>by obtain rfl:=List.mem_singleton.1 hp;exact fun hm=>by rcases List.mem_cons.1 hm with e|hm;exact bx_ne hs.st (i:=0) (j:=3) kR kR kR e;rcases List.mem_cons.1 hm with e|hm;exact bx_ne hs.st (i:=0) (j:=2) kR kR kR e;cases hm)))));have zv:LQ (1) (((s.n:Int):Rat)):=LQ.int oM oM;refine eC 3 65 hs (fun _ _ hs=>fOf s.n oM oM _ _ hs.g) ?_;rintro _ _ _ _ _ hs rfl;have hq117:=LQ.mul hpw zv;refine eC 4 66 hs (fun _ _ hs=>fMul (powq a (s.n-1)) ((s.n:Int):Rat) (LQ.mono hpw oM) (LQ.mono zv oM) _ _ hs.g hs.f.1) ?_;rintro _ _ _ _ _ hs rfl;refine eD0 hs (fun _ _ hs=>tP 6 3 0 (qc ((powq a (s.n-1))*((s.n:Int):Rat))) hs (fun _ hs=>?_) (hz:=tlz_mem (List.mem_cons_self)));refine tP 7 2 0 (qc 0) hs (fun _ hs=>?_) (hz:=tlz_mem (List.mem_cons_of_mem _<|List.mem_cons_self));refine tN (cTo [(6,pB za),(7,pB zb),(9,pB ze)] ?_);exact kX (hs.ret [(3,0,5),(2,0,5)] (.tuple #[qv ((powq a (s.n-1))*((s.n:Int):Rat)),qv 0]) (by rw[show s.op=8 by omega];unfold sla slb;rw[if_neg kD,if_neg kD,if_neg kD,if_neg kD,if_neg kD,if_pos rfl,if_neg (show ¬s.n=0 by omega)];rfl))
      have zF:=eq_of_beq zc;refine lB 51 zc (lN (cIT (cQ ?_)));have hsr:=hs;refine cRz 2 [] [za,zb] mixed hs al_nil (eO 0 52 [(0,0,5)] (qv 0) hs (eOz 1 53 [(0,0,5)] (qv 0) hsr hs ?_ (hM:=fun p hp=>by obtain rfl:=List.mem_singleton.1 hp;exact fun hm=>by rcases List.mem_cons.1 hm with e|hm;exact bx_ne hs.st (i:=0) (j:=3) kR kR kR e;rcases List.mem_cons.1 hm with e|hm;exact bx_ne hs.st (i:=0) (j:=2) kR kR kR e;cases hm)));refine eD0 hs (fun _ _ hs=>tP 2 3 0 (qc 0) hs (fun _ hs=>?_) (hz:=tlz_mem (List.mem_cons_self)));refine tP 3 2 0 (qc 0) hs (fun _ hs=>?_) (hz:=tlz_mem (List.mem_cons_of_mem _<|List.mem_cons_self));exact tN (kX (hs.ret [(3,0,5),(2,0,5)] (.tuple #[qv 0,qv 0]) (by rw[show s.op=8 by omega,show s.n=0 by omega];rfl)))
     have zK:=eq_of_beq zk;refine lB 43 zk (lL hs [.m 42 43] (lN (cIT (cQ ?_))));have hsr:=hs;refine cRz 3 [] [za,zb] mixed hs al_nil (eO 0 44 [(1,0,5)] (qv ((1:Int):Rat)) hs (eOz 2 46 [(0,0,5)] (qv 0) hsr hs ?_ (hM:=fun p hp=>by obtain rfl:=List.mem_singleton.1 hp;exact fun hm=>by rcases List.mem_cons.1 hm with e|hm;exact bx_ne hs.st (i:=0) (j:=3) kR kR kR e;rcases List.mem_cons.1 hm with e|hm;exact bx_ne hs.st (i:=0) (j:=2) kR kR kR e;cases hm)));have hq128:LQ (1) (-((1:Int):Rat)):=LQ.neg (LQ.lit (z:=1) kD);refine eC 1 45 hs (fun _ _ hs=>fNeg ((1:Int):Rat) (LQ.mono (LQ.lit (z:=1) kD) oM) _ _ hs.g) ?_;rintro _ _ _ _ _ hs rfl;refine eD0 hs (fun _ _ hs=>tP 3 3 0 (qc (-((1:Int):Rat))) hs (fun _ hs=>?_) (hz:=tlz_mem (List.mem_cons_self)));refine tP 4 2 0 (qc 0) hs (fun _ hs=>?_) (hz:=tlz_mem (List.mem_cons_of_mem _<|List.mem_cons_self));exact tN (kX (hs.ret [(3,0,5),(2,0,5)] (.tuple #[qv (-((1:Int):Rat)),qv 0]) (by rw[show s.op=7 by omega];rfl)))
    have zJ:=eq_of_beq zj;refine lB 28 zj (lL hs [.m 27 28] (lN (cIT (cSL (lL hs [.o 30 (qv ((1:Int):Rat)) 1 0 5,.o 31 (qv b) 4 0 5] ?_)))));have zd:=LQ.div (LQ.lit (z:=1) kD) hb;refine lC 32 hs (fDivN ((1:Int):Rat) b (LQ.mono (LQ.lit (z:=1) kD) oM) (LQ.mono hb oM) (num_nz (hok6 oM)) _ _ hs.g hs.f.1) ?_;rintro _ _ _ hs rfl;refine lL hs [.m 29 32,.v 33 (qv (((1:Int):Rat)/b)),.v 34 qT] (lP 3 0 (qc (((1:Int):Rat)/b)) hs (fun _ hs=>lN (cQ ?_)));have hsr:=hs;refine cRz 7 [] [za,zb] mixed hs al_nil (eO 0 35 [(3,0,5)] (qv (((1:Int):Rat)/b)) hs (eOz 1 36 [(5,0,5)] (qv a) hsr hs ?_ (hM:=fun p hp=>by obtain rfl:=List.mem_singleton.1 hp;exact fun hm=>by rcases List.mem_cons.1 hm with e|hm;exact bx_ne hs.st (i:=5) (j:=3) kR kR kR e;rcases List.mem_cons.1 hm with e|hm;exact bx_ne hs.st (i:=5) (j:=2) kR kR kR e;cases hm)));refine eO 2 37 [(3,0,5)] (qv (((1:Int):Rat)/b)) hs (eO 4 39 [(3,0,5)] (qv (((1:Int):Rat)/b)) hs ?_);have zw:=LQ.mul ha zd;refine eC 3 38 hs (fun _ _ hs=>fMul a (((1:Int):Rat)/b) (LQ.mono ha oM) (LQ.mono zd oM) _ _ hs.g hs.f.1) ?_;rintro _ _ _ _ _ hs rfl;have zx:=LQ.mul zw zd;refine eC 5 40 hs (fun _ _ hs=>fMul (a*(((1:Int):Rat)/b)) (((1:Int):Rat)/b) (LQ.mono zw oM) (LQ.mono zd oM) _ _ hs.g hs.f.1) ?_;rintro _ _ _ _ _ hs rfl;have hq145:LQ ((K+(1+K))+(1+K)) (-((a*(((1:Int):Rat)/b))*(((1:Int):Rat)/b))):=LQ.neg zx;refine eC 6 41 hs (fun _ _ hs=>fNeg ((a*(((1:Int):Rat)/b))*(((1:Int):Rat)/b)) (LQ.mono zx oM) _ _ hs.g) ?_;rintro _ _ _ _ _ hs rfl;refine eD0 hs (fun _ _ hs=>tP 7 3 0 (qc (((1:Int):Rat)/b)) hs (fun _ hs=>?_) (hz:=tlz_mem (List.mem_cons_self)));refine tP 8 2 0 (qc (-((a*(((1:Int):Rat)/b))*(((1:Int):Rat)/b)))) hs (fun _ hs=>?_) (hz:=tlz_mem (List.mem_cons_of_mem _<|List.mem_cons_self));exact tN (kX (hs.ret [(3,0,5),(2,0,5)] (.tuple #[qv (((1:Int):Rat)/b),qv (-((a*(((1:Int):Rat)/b))*(((1:Int):Rat)/b)))]) (by rw[show s.op=6 by omega];rfl)))
   have zI:=eq_of_beq zi;refine lB 24 zi (lL hs [.m 23 24] (lN (cIT (cQ ?_))));have hsr:=hs;refine cRz 2 [] [za,zb] mixed hs al_nil (eO 0 25 [(4,0,5)] (qv b) hs (eOz 1 26 [(5,0,5)] (qv a) hsr hs ?_ (hM:=fun p hp=>by obtain rfl:=List.mem_singleton.1 hp;exact fun hm=>by rcases List.mem_cons.1 hm with e|hm;exact bx_ne hs.st (i:=5) (j:=3) kR kR kR e;rcases List.mem_cons.1 hm with e|hm;exact bx_ne hs.st (i:=5) (j:=2) kR kR kR e;cases hm)));refine eD0 hs (fun _ _ hs=>tP 2 3 0 (qc b) hs (fun _ hs=>?_) (hz:=tlz_mem (List.mem_cons_self)));refine tP 3 2 0 (qc a) hs (fun _ hs=>?_) (hz:=tlz_mem (List.mem_cons_of_mem _<|List.mem_cons_self));exact tN (kX (hs.ret [(3,0,5),(2,0,5)] (.tuple #[qv b,qv a]) (by rw[show s.op=5 by omega];rfl)))
  have zH:=eq_of_beq zg;refine lB 19 zg (lL hs [.m 18 19] (lN (cIT (cQ ?_))));have hsr:=hs;refine cRz 3 [] [za,zb] mixed hs al_nil (eO 0 20 [(1,0,5)] (qv ((1:Int):Rat)) hs (eOz 1 21 [(1,0,5)] (qv ((1:Int):Rat)) hsr hs ?_ (hM:=fun p hp=>by obtain rfl:=List.mem_singleton.1 hp;exact fun hm=>by rcases List.mem_cons.1 hm with e|hm;exact bx_ne hs.st (i:=1) (j:=3) kR kR kR e;rcases List.mem_cons.1 hm with e|hm;exact bx_ne hs.st (i:=1) (j:=2) kR kR kR e;cases hm)));have hq156:LQ (1) (-((1:Int):Rat)):=LQ.neg (LQ.lit (z:=1) kD);refine eC 2 22 hs (fun _ _ hs=>fNeg ((1:Int):Rat) (LQ.mono (LQ.lit (z:=1) kD) oM) _ _ hs.g) ?_;rintro _ _ _ _ _ hs rfl;refine eD0 hs (fun _ _ hs=>tP 3 3 0 (qc ((1:Int):Rat)) hs (fun _ hs=>?_) (hz:=tlz_mem (List.mem_cons_self)));refine tP 4 2 0 (qc (-((1:Int):Rat))) hs (fun _ hs=>?_) (hz:=tlz_mem (List.mem_cons_of_mem _<|List.mem_cons_self));exact tN (kX (hs.ret [(3,0,5),(2,0,5)] (.tuple #[qv ((1:Int):Rat),qv (-((1:Int):Rat))]) (by rw[show s.op=4 by omega];rfl)))
 have zG:=eq_of_beq zf;refine lB 15 zf (lL hs [.m 14 15] (lN (cIT (cQ ?_))));have hsr:=hs;refine cRz 2 [] [za,zb] mixed hs al_nil (eO 0 16 [(1,0,5)] (qv ((1:Int):Rat)) hs (eOz 1 17 [(1,0,5)] (qv ((1:Int):Rat)) hsr hs ?_ (hM:=fun p hp=>by obtain rfl:=List.mem_singleton.1 hp;exact fun hm=>by rcases List.mem_cons.1 hm with e|hm;exact bx_ne hs.st (i:=1) (j:=3) kR kR kR e;rcases List.mem_cons.1 hm with e|hm;exact bx_ne hs.st (i:=1) (j:=2) kR kR kR e;cases hm)));refine eD0 hs (fun _ _ hs=>tP 2 3 0 (qc ((1:Int):Rat)) hs (fun _ hs=>?_) (hz:=tlz_mem (List.mem_cons_self)));refine tP 3 2 0 (qc ((1:Int):Rat)) hs (fun _ hs=>?_) (hz:=tlz_mem (List.mem_cons_of_mem _<|List.mem_cons_self));exact tN (kX (hs.ret [(3,0,5),(2,0,5)] (.tuple #[qv ((1:Int):Rat),qv ((1:Int):Rat)]) (by rw[show s.op=3 by omega];rfl)))
end Go.Proofs.YtceljehlpaclmaaGreatDoor
