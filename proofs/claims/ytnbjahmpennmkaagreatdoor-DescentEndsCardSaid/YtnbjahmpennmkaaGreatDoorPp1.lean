/- Laws and contracts that the card of this claim stands on, part 2. No condition of ours. -/
import Derived.Test.YtnbjahmpennmkaaGreatDoorPp0
set_option maxRecDepth 100000
set_option maxHeartbeats 4000000
namespace Go.Proofs.YtnbjahmpennmkaaGreatDoor
open Go.RowKit
structure HalfQ (Y y1 y0 u u1 q r:Nat):Prop where
  e:q*y1+r=u
  lt:u*4294967296+u1<(q+1)*Y
  qb:q≤4294967297
theorem half_start {Y y1 y0 u u1:Nat}(hY:Y=y1*4294967296+y0)(h1:u1<4294967296)(hn:2147483648≤y1)(h0:y0<4294967296)(hu:u<Y):HalfQ Y y1 y0 u u1 (u/y1) (u-u/y1*y1):=by
  have hm:u/y1*y1≤u:=Nat.div_mul_le_self u y1
  have hlt:u<(u/y1+1)*y1:=by
    have:=Nat.lt_div_mul_add (a:=u) (b:=y1) oM
    rw[Nat.add_mul,Nat.one_mul];exact this
  refine ⟨by omega,?_,?_⟩
  · have:(u/y1+1)*Y=(u/y1+1)*y1*4294967296+(u/y1+1)*y0:=by rw[hY,Nat.mul_add,Nat.mul_assoc]
    omega
  · have h2:u/y1<4294967298:=by
      rw[Nat.div_lt_iff_lt_mul oM]
      omega
    omega
theorem half_rest {u y1:Nat}(h:0<y1):u-u/y1*y1<y1:=by
  have:=Nat.lt_div_mul_add (a:=u) (b:=y1) h
  have hm:u/y1*y1≤u:=Nat.div_mul_le_self u y1
  omega
theorem HalfQ.dec {Y y1 y0 u u1 q r:Nat}(h:HalfQ Y y1 y0 u u1 q r)(hY:Y=y1*4294967296+y0)(h1:u1<4294967296)(hu:u<Y)(ht:4294967296≤q∨4294967296*r+u1<q*y0):HalfQ Y y1 y0 u u1 (q-1) (r+y1):=by
  have hq:0<q:=by
    rcases ht with h2|h2
    · omega
    · rcases Nat.eq_zero_or_pos q with h3|h3
      · subst h3;omega
      · exact h3
  obtain ⟨p,rfl⟩:∃ p,q=p+1:=⟨q-1,by omega⟩
  have e:=h.e
  rw[Nat.add_mul,Nat.one_mul] at e
  refine ⟨by rw[Nat.add_sub_cancel];omega,?_,by have:=h.qb;omega⟩
  rw[Nat.add_sub_cancel]
  rcases ht with h2|h2
  · have:4294967296*Y≤(p+1)*Y:=Nat.mul_le_mul_right _ h2
    omega
  · have:(p+1)*Y=(p+1)*y1*4294967296+(p+1)*y0:=by rw[hY,Nat.mul_add,Nat.mul_assoc]
    rw[Nat.add_mul p 1 y1,Nat.one_mul] at this
    omega
theorem HalfQ.fin {Y y1 y0 u u1 q r:Nat}(h:HalfQ Y y1 y0 u u1 q r)(hY:Y=y1*4294967296+y0)(ht:¬4294967296*r+u1<q*y0):q=(u*4294967296+u1)/Y∧(u*4294967296+u1)-q*Y=(u*4294967296+u1)%Y∧q*Y≤u*4294967296+u1:=by
  have hle:q*Y≤u*4294967296+u1:=by
    have:q*Y=q*y1*4294967296+q*y0:=by rw[hY,Nat.mul_add,Nat.mul_assoc]
    have:=h.e
    omega
  have hq:q=(u*4294967296+u1)/Y:=(Nat.div_eq_of_lt_le hle h.lt).symm
  have hd:=Nat.div_add_mod (u*4294967296+u1) Y
  rw[←hq,Nat.mul_comm] at hd
  exact ⟨hq,by omega,hle⟩
theorem HalfQ.brk {Y y1 y0 u u1 q r:Nat}(h:HalfQ Y y1 y0 u u1 q r)(hY:Y=y1*4294967296+y0)(h0:y0<4294967296)(hr:4294967296≤r)(hq:q≤4294967296):q=(u*4294967296+u1)/Y∧(u*4294967296+u1)-q*Y=(u*4294967296+u1)%Y∧q*Y≤u*4294967296+u1 :=
  h.fin hY (by
    have:q*y0≤4294967296*y0:=Nat.mul_le_mul_right _ hq
    omega)
theorem half_core {A y s Y Q R:Nat}(hYs:Y=y*2^s)(hA:A*2^s=Y*Q+R)(hm:R<Y):A=y*Q+R/2^s∧R/2^s<y:=by
  have hp:0<2^s:=Nat.two_pow_pos s
  have e:y*Q*2^s=Y*Q:=by rw[hYs];ac_rfl
  have hle:y*Q≤A:=by
    have:y*Q*2^s≤A*2^s:=by rw[hA,e];omega
    exact Nat.le_of_mul_le_mul_right this hp
  have hR2:R=(A-y*Q)*2^s:=by rw[Nat.sub_mul,hA,e];omega
  rw[hR2,Nat.mul_div_cancel _ hp]
  refine ⟨by omega,?_⟩
  have:(A-y*Q)*2^s<y*2^s:=by rw[←hR2,←hYs];exact hm
  exact Nat.lt_of_mul_lt_mul_right this
theorem half_both {A y s u32 u10 Y u1 u0 q1 r1 q0 R:Nat}(hYs:Y=y*2^s)(hN:A*2^s=u32*18446744073709551616+u10)(h10:u10=u1*4294967296+u0)(hy:0<y)
    (e1:q1=(u32*4294967296+u1)/Y)(e2:r1=(u32*4294967296+u1)%Y)(e3:q0=(r1*4294967296+u0)/Y)(e4:R=(r1*4294967296+u0)%Y) :
    A=y*(q1*4294967296+q0)+R/2^s∧R/2^s<y:=by
  have hYp:0<Y:=by rw[hYs];exact Nat.mul_pos hy (Nat.two_pow_pos s)
  have d1:=Nat.div_add_mod (u32*4294967296+u1) Y
  have d0:=Nat.div_add_mod (r1*4294967296+u0) Y
  rw[←e1,←e2] at d1
  rw[←e3,←e4] at d0
  have hm:R<Y:=by rw[e4];exact Nat.mod_lt _ hYp
  refine half_core hYs ?_ hm
  rw[hN,h10,Nat.mul_add,←Nat.mul_assoc]
  clear e1 e2 e3 e4 hN h10 hm hYs hYp hy
  omega
theorem lz_norm {y:Nat}(h0:0<y)(h:y<18446744073709551616):9223372036854775808≤y*2^(64-nb y)∧y*2^(64-nb y)<18446744073709551616:=by
  obtain ⟨s1,s2,s3⟩:=nb_spec h0
  have hle:nb y≤64:=nb_le (k:=64) h
  have e1:(2:Nat)^(nb y-1)*2^(64-nb y)=9223372036854775808:=by
    rw[←Nat.pow_add,show nb y-1+(64-nb y)=63 by omega]
  have e2:(2:Nat)^nb y*2^(64-nb y)=18446744073709551616:=by
    rw[←Nat.pow_add,show nb y+(64-nb y)=64 by omega]
  have a1:=Nat.mul_le_mul_right (2^(64-nb y)) s1
  have a2:=Nat.mul_lt_mul_of_pos_right s2 (Nat.two_pow_pos (64-nb y))
  omega
theorem shl_two {hi lo s:Nat}(hs:s≤64)(hl:lo<18446744073709551616):(hi*18446744073709551616+lo)*2^s=(hi*2^s+lo/2^(64-s))*18446744073709551616+lo*2^s%18446744073709551616∧lo/2^(64-s)<2^s:=by
  have e:(18446744073709551616:Nat)=2^(64-s)*2^s:=by rw[←Nat.pow_add,show 64-s+s=64 by omega]
  have h1:lo*2^s/18446744073709551616=lo/2^(64-s):=by
    rw[e,Nat.mul_div_mul_right _ _ (Nat.two_pow_pos s)]
  have h2:=Nat.div_add_mod (lo*2^s) 18446744073709551616
  rw[h1] at h2
  constructor
  · rw[Nat.add_mul,Nat.add_mul]
    have:hi*18446744073709551616*2^s=hi*2^s*18446744073709551616:=by ac_rfl
    omega
  · rw[Nat.div_lt_iff_lt_mul (Nat.two_pow_pos _),Nat.mul_comm,←e];exact hl
theorem wrap_rest {a b q Y r:Nat}(h:q*Y≤a*4294967296+b)(hr:a*4294967296+b-q*Y=r)(hrb:r<18446744073709551616):((a*4294967296%18446744073709551616+b)%18446744073709551616+(18446744073709551616-q*Y%18446744073709551616))%18446744073709551616=r:=by
  generalize q*Y=m at *
  omega
theorem mul32 {a b:Nat}(ha:a<4294967296)(hb:b<4294967296):a*b<18446744073709551616:=by
  have:a*b≤4294967295*4294967295:=Nat.mul_le_mul oM oM
  omega
theorem pos_of_mul {a b c:Nat}(h:c<a*b):0<a:=by
  rcases Nat.eq_zero_or_pos a with h0|h0
  · rw[h0,Nat.zero_mul] at h;omega
  · exact h0
theorem quo_lt32 {u u1 Y:Nat}(h:u<Y)(h1:u1<4294967296):(u*4294967296+u1)/Y<4294967296:=by
  rw[Nat.div_lt_iff_lt_mul oM]
  have:(u+1)*4294967296≤Y*4294967296:=Nat.mul_le_mul_right _ h
  omega
theorem pow64 {p:Nat}(h:p≤64):(18446744073709551616:Nat)=2^(64-p)*2^p:=by rw[←Nat.pow_add,show 64-p+p=64 by omega]
theorem shl_word {x p o:Nat}(hp:p≤64)(hx:x<18446744073709551616)(ho:o<2^p) :
    o ||| (x*2^p%18446744073709551616)=o+x*2^p%18446744073709551616∧o+x*2^p%18446744073709551616<18446744073709551616∧x*2^p%18446744073709551616+18446744073709551616*(x/2^(64-p))=x*2^p∧x/2^(64-p)<2^p:=by
  have e:=pow64 hp
  have hm:x*2^p%18446744073709551616=x%2^(64-p)*2^p:=by
    conv=>lhs;rw[e]
    exact Nat.mul_mod_mul_right _ _ _
  have hlt:x%2^(64-p)<2^(64-p):=Nat.mod_lt _ (Nat.two_pow_pos _)
  refine ⟨by rw[hm];exact or_lo p ho,?_,?_,?_⟩
  · rw[hm]
    have:(x%2^(64-p)+1)*2^p≤2^(64-p)*2^p:=Nat.mul_le_mul_right _ hlt
    rw[←e,Nat.add_mul] at this
    omega
  · have h1:x*2^p/18446744073709551616=x/2^(64-p):=by
      conv=>lhs;rw[e]
      exact Nat.mul_div_mul_right _ _ (Nat.two_pow_pos _)
    rw[←h1];exact Nat.mod_add_div _ _
  · rw[Nat.div_lt_iff_lt_mul (Nat.two_pow_pos _),Nat.mul_comm,←e];exact hx
theorem shu_step {l w:List Nat}{i q p x o a c:Nat}(hl:i+q+1<l.length)(hv:wval l=2^p*(18446744073709551616^q*bval 18446744073709551616 (w.take i)))(h0:l.getD (i+q+1) 0=0)(hs:a+18446744073709551616*c=x*2^p)(hx:x=w.getD i 0)(ho:o=l.getD (i+q) 0) :
    wval ((l.set (i+q) (o+a)).set (i+q+1) c)=2^p*(18446744073709551616^q*bval 18446744073709551616 (w.take (i+1))):=by
  have s1:=bval_set 18446744073709551616 (l:=l) (k:=i+q) (o+a) oM
  have s2:=bval_set 18446744073709551616 (l:=l.set (i+q) (o+a)) (k:=i+q+1) c (by rw[List.length_set];omega)
  rw[getD_set' oM,if_neg oM,h0] at s2
  rw[←ho] at s1
  have e3:2^p*(18446744073709551616^q*bval 18446744073709551616 (w.take (i+1)))=wval l+18446744073709551616^(i+q)*(x*2^p):=by
    rw[bval_take_next,hv,←hx,Nat.mul_add,Nat.mul_add,Nat.pow_add]
    congr 1
    ac_rfl
  rw[e3,←hs]
  rw[Nat.pow_succ] at s2
  show bval 18446744073709551616 _=bval 18446744073709551616 l+_
  simp only[Nat.mul_add,←Nat.mul_assoc] at s1 s2 ⊢
  omega
theorem pow_n (n:Nat):(2:Nat)^n=18446744073709551616^(n/64)*2^(n%64):=by
  have:n=64*(n/64)+n%64:=by omega
  conv=>lhs;rw[this,Nat.pow_add,Nat.pow_mul]
theorem shr_word {x y p:Nat}(hp:p≤64)(hx:x<18446744073709551616) :
    (x/2^p) ||| (y*2^(64-p)%18446744073709551616)=x/2^p+y*2^(64-p)%18446744073709551616∧x/2^p+y*2^(64-p)%18446744073709551616<18446744073709551616∧2^p*(x/2^p+y*2^(64-p)%18446744073709551616)+x%2^p=x+18446744073709551616*(y%2^p):=by
  have e:=pow64 hp
  have e':(18446744073709551616:Nat)=2^p*2^(64-p):=by rw[Nat.mul_comm];exact e
  have hm:y*2^(64-p)%18446744073709551616=y%2^p*2^(64-p):=by
    conv=>lhs;rw[e']
    exact Nat.mul_mod_mul_right _ _ _
  have ho:x/2^p<2^(64-p):=by rw[Nat.div_lt_iff_lt_mul (Nat.two_pow_pos _),←e];exact hx
  have hlt:y%2^p<2^p:=Nat.mod_lt _ (Nat.two_pow_pos _)
  refine ⟨by rw[hm];exact or_lo (64-p) ho,?_,?_⟩
  · rw[hm]
    have:(y%2^p+1)*2^(64-p)≤2^p*2^(64-p):=Nat.mul_le_mul_right _ hlt
    rw[←e',Nat.add_mul] at this
    omega
  · rw[hm,Nat.mul_add]
    have h1:=Nat.div_add_mod x (2^p)
    have h2:2^p*(y%2^p*2^(64-p))=18446744073709551616*(y%2^p):=by rw[e'];ac_rfl
    omega
theorem shd_step {l W:List Nat}{i p d r0:Nat}(hl:i<l.length)(inv:2^p*bval 18446744073709551616 l+r0=bval 18446744073709551616 (W.take i)+18446744073709551616^i*(W.getD i 0%2^p))(h0:l.getD i 0=0)(hd:2^p*d+W.getD i 0%2^p=W.getD i 0+18446744073709551616*(W.getD (i+1) 0%2^p)) :
    2^p*bval 18446744073709551616 (l.set i d)+r0=bval 18446744073709551616 (W.take (i+1))+18446744073709551616^(i+1)*(W.getD (i+1) 0%2^p):=by
  have s1:=bval_set 18446744073709551616 (l:=l) (k:=i) d hl
  rw[h0] at s1
  rw[bval_take_next,Nat.pow_succ]
  have e1:18446744073709551616^i*(2^p*d+W.getD i 0%2^p)=18446744073709551616^i*(W.getD i 0+18446744073709551616*(W.getD (i+1) 0%2^p)):=by rw[hd]
  have e2:bval 18446744073709551616 (l.set i d)=bval 18446744073709551616 l+18446744073709551616^i*d:=by omega
  rw[e2,Nat.mul_add]
  have e3:2^p*(18446744073709551616^i*d)=18446744073709551616^i*(2^p*d):=by ac_rfl
  rw[e3]
  simp only[Nat.mul_add,←Nat.mul_assoc] at e1 ⊢
  simp only[Nat.mul_assoc] at e1 inv ⊢
  omega
theorem shd_end {l W:List Nat}{p m:Nat}(hm:W.length≤m)(inv:2^p*bval 18446744073709551616 l+W.getD 0 0%2^p=bval 18446744073709551616 (W.take m)+18446744073709551616^m*(W.getD m 0%2^p)):wval l=wval W/2^p:=by
  rw[List.take_of_length_le hm] at inv
  have h0:W.getD m 0=0:=by simp[List.getElem?_eq_none hm]
  rw[h0,Nat.zero_mod,Nat.mul_zero,Nat.add_zero] at inv
  have hp:=Nat.two_pow_pos p
  have hl:=Nat.mod_lt (W.getD 0 0) hp
  show bval _ l=bval _ W/_
  rw[←inv,Nat.mul_add_div hp,Nat.div_eq_of_lt hl,Nat.add_zero]
theorem wval_drop {w:List Nat}(hw:Wd w){q:Nat}(hq:q≤w.length):wval (w.drop q)=wval w/18446744073709551616^q:=by
  have e:=bval_split 18446744073709551616 hq
  have h1:=bval_lt (Dg.take hw q)
  rw[List.length_take,Nat.min_eq_left hq] at h1
  show bval _ _=bval _ w/_
  rw[e,Nat.add_mul_div_left _ _ (Nat.pow_pos kD),Nat.div_eq_of_lt h1,Nat.zero_add]
def u8c (x:Nat):List Value:=[.int .u8 (x:Nat)]
theorem bval_digit {b:Nat}(hb:0<b){l:List Nat}(h:Dg b l)(j:Nat):l.getD j 0=bval b l/b^j%b:=by
  rcases Nat.lt_or_ge j l.length with hj|hj
  · have h1:=bval_split b (l:=l) (k:=j) oM
    have h2:=bval_drop b (l:=l) (k:=j) hj
    have h3:=bval_lt (Dg.take h j)
    rw[List.length_take,Nat.min_eq_left oM] at h3
    have hp:0<b^j:=Nat.pow_pos hb
    rw[h1,Nat.add_mul_div_left _ _ hp,Nat.div_eq_of_lt h3,Nat.zero_add,h2,Nat.add_mul_mod_self_left,Nat.mod_eq_of_lt (h.getD hb j)]
  · rw[getD_out hj,Nat.div_eq_of_lt,Nat.zero_mod]
    exact Nat.lt_of_lt_of_le (bval_lt h) (Nat.pow_le_pow_right hb hj)
theorem digit_lt {b:Nat}{l:List Nat}{k P:Nat}(hk:k<l.length)(hb:0<b)(h:bval b l<b^k*P):l.getD k 0<P:=by
  have h1:=bval_split b (l:=l) (k:=k) oM
  have h2:=bval_drop b (l:=l) (k:=k) hk
  have hp:0<b^k:=Nat.pow_pos hb
  refine Nat.lt_of_mul_lt_mul_left (a:=b^k) ?_
  have h3:b^k*l.getD k 0≤b^k*bval b (l.drop k):=Nat.mul_le_mul_left _ (by rw[h2];omega)
  omega
theorem pow256 (k:Nat):(256:Nat)^k=18446744073709551616^(k/8)*2^(8*(k%8)):=by
  have:k=8*(k/8)+k%8:=by omega
  conv=>lhs;rw[this,Nat.pow_add,Nat.pow_mul]
  rw[Nat.pow_mul 2 8]
theorem byte_row {l:List Nat}(hW:Wd l)(k:Nat):l.getD (k/8) 0/2^(8*(k%8))%256=wval l/256^k%256:=by
  rw[bval_digit kD hW (k/8),pow256,←Nat.div_div_eq_div_mul]
  show _=bval 18446744073709551616 l/_/_%256
  generalize bval 18446744073709551616 l/18446744073709551616^(k/8)=y
  have:k%8=0∨k%8=1∨k%8=2∨k%8=3∨k%8=4∨k%8=5∨k%8=6∨k%8=7:=by omega
  rcases this with h|h|h|h|h|h|h|h<;>rw[h]<;>omega
theorem byte_wds (n k:Nat):(wds n).getD (k/8) 0/2^(8*(k%8))%256=n/256^k%256:=by
  rw[byte_row (Wd.wds n),wval_wds]
theorem byte_fit {b k:Nat}(hb:b<256):b*2^(8*(k%8))<18446744073709551616:=by
  have:k%8=0∨k%8=1∨k%8=2∨k%8=3∨k%8=4∨k%8=5∨k%8=6∨k%8=7:=by omega
  rcases this with h|h|h|h|h|h|h|h<;>rw[h]<;>omega
theorem byte_fit2 {a b k:Nat}(ha:a<2^(8*(k%8)))(hb:b<256):a+b*2^(8*(k%8))<18446744073709551616:=by
  have:k%8=0∨k%8=1∨k%8=2∨k%8=3∨k%8=4∨k%8=5∨k%8=6∨k%8=7:=by omega
  rcases this with h|h|h|h|h|h|h|h<;>rw[h] at ha ⊢ <;> omega
theorem fb_step {l:List Nat}{n k x:Nat}(hk:k/8<l.length)(inv:wval l=n%256^k)(hx:x=n/256^k%256) :
    (l.getD (k/8) 0 ||| x*2^(8*(k%8))%18446744073709551616)=l.getD (k/8) 0+x*2^(8*(k%8))∧l.getD (k/8) 0+x*2^(8*(k%8))<18446744073709551616 ∧
    wval (l.set (k/8) (l.getD (k/8) 0+x*2^(8*(k%8))))=n%256^(k+1):=by
  have hb:x<256:=by rw[hx];exact Nat.mod_lt _ oM
  have hlt:wval l<256^k:=by rw[inv];exact Nat.mod_lt _ (Nat.pow_pos oM)
  have hd:l.getD (k/8) 0<2^(8*(k%8)):=digit_lt (b:=18446744073709551616) hk kD (by rw[←pow256];exact hlt)
  refine ⟨?_,byte_fit2 hd hb,?_⟩
  · rw[Nat.mod_eq_of_lt (byte_fit hb)];exact or_lo _ hd
  · have e:=bval_set 18446744073709551616 (l:=l) (k:=k/8) (l.getD (k/8) 0+x*2^(8*(k%8))) hk
    rw[mod_step,←hx,←inv]
    show bval _ _=bval _ l+_
    have e2:256^k*x=18446744073709551616^(k/8)*(x*2^(8*(k%8))):=by rw[pow256 k];ac_rfl
    rw[Nat.mul_add] at e
    rw[e2]
    omega
theorem lt256 (n:Nat):n<256^((nb n+7)/8):=by
  have h:=lt_nb n
  have e:(256:Nat)^((nb n+7)/8)=2^(8*((nb n+7)/8)):=by rw[Nat.pow_mul]
  rw[e]
  exact Nat.lt_of_lt_of_le h (Nat.pow_le_pow_right oM oM)
theorem nb_len64 (n:Nat):nb n≤64*(wds n).length:=by
  apply nb_le
  have:=wds_lt_pow n
  rwa [show (18446744073709551616:Nat)=2^64 by rfl,←Nat.pow_mul] at this
theorem wds_len_nb (n:Nat):(wds n).length=(nb n+63)/64:=by
  rcases Nat.eq_zero_or_pos n with h|h
  · subst h;rfl
  · have h1:=nb_wds h
    have h2:=wds_last h
    have h3:=wds_get n ((wds n).length-1)
    have h4:=wds_pos.2 h
    generalize (wds n).getD ((wds n).length-1) 0=t at *
    have h5:=(nb_spec (Nat.pos_of_ne_zero h2)).2.2
    have h6:nb t≤64:=nb_le (k:=64) h3
    omega
def Nw (K:Nat)(h:Hp)(b:Nat)(t:TypeId)(cs:List Value):Prop:=K≤b∧t≠0∧h[b]?=some (.cells cs.toArray t (0,0))
theorem Nw.gw {K:Nat}{h h':Hp}{b:Nat}{t:TypeId}{cs:List Value}(x:Nw K h b t cs)(u:Gw h h'):Nw K h' b t cs:=by
  obtain ⟨h1,h2,h3⟩:=x
  refine ⟨h1,h2,?_⟩
  rcases u.blk b (lt_of_some h3) with e|e
  · exact e.trans h3
  · rw[e] at h3
    injection h3 with h3
    unfold junk at h3
    injection h3 with _ h4
    exact absurd h4.symm h2
theorem Nw.seg {K:Nat}{h:Hp}{b:Nat}{t:TypeId}{cs sp:List Value}(x:Nw K h b t (cs++sp)):Seg h b 0 cs:=fun i v hv=>by
  unfold hcell
  rw[x.2.2]
  have hi:i<cs.length:=(List.getElem?_eq_some_iff.1 hv).1
  simp only[Nat.zero_add,List.getElem?_toArray]
  rw[List.getElem?_append_left hi];exact hv
def SlN {α:Type}(K:Nat)(ty:TypeId)(f:α→List Value)(h:Hp)(v:Value)(l:List α):Prop :=
  ∃ b c sp,v=.slice (some ⟨b,0,none⟩) l.length c∧l.length≤c∧Nw K h b ty (l.flatMap f++sp)
theorem SlN.slv {α:Type}{K sz:Nat}{ty:TypeId}{f:α→List Value}{d:α}{h:Hp}{v:Value}{l:List α}(x:SlN K ty f h v l)(hf:∀ x,(f x).length=sz):SlV sz f d h v l:=by
  obtain ⟨b,c,sp,e,hc,n⟩:=x
  exact ⟨_,c,e,hc,SlO.of_flat hf n.seg⟩
section ss
variable {w0:World} {h0:Hp} {w:World} {h:Hp} {B:List Bx} {R:List Rw} {F:List (Hp→Prop)}
theorem SS.pubn (s:SS w0 h0 w h B R F)(j:Nat){ty:TypeId}{sz c:Nat}{A:Option Addr}{α:Type}{f:α→List Value}{l:List α}(hpos:0<l.length)(hr:R.getD j default=⟨ty,sz,A,c,l.length,l.flatMap f⟩:=by kernel_rfl)(hj:decide (j<R.length)=true:=by kernel_rfl)(hty:(ty == 0)=false:=by kernel_rfl) :
    ∃ h' b sp,SS w0 h0 w h' B (R.eraseIdx j) ((fun h=>Nw h0.size h b ty (l.flatMap f++sp))::F)∧A=some ⟨b,0,none⟩∧l.length≤c:=by
  have hj':=oT hj
  have e0:R[j]=⟨ty,sz,A,c,l.length,l.flatMap f⟩:=by rw[←hr];simp[hj']
  have hm:R[j]∈R:=List.getElem_mem hj'
  have r0:=s.ro _ hm
  rw[e0] at r0
  have hne:∀ r∈R.eraseIdx j,Apart r.v R[j].v:=by
    intro r hr
    obtain ⟨i,hi,he⟩:=List.mem_iff_getElem.1 hr
    rw[List.getElem_eraseIdx] at he
    have hp:=List.pairwise_iff_getElem.1 s.ap
    split at he
    · rename_i hl;rw[←he];exact hp i j oM hj' hl
    · rename_i hl
      rw[←he]
      have hi':i+1<R.length:=by rw[List.length_eraseIdx_of_lt hj'] at hi;omega
      exact (hp j (i+1) hj' hi' oM).symm
  have hty':ty≠0:=by simpa using hty
  rcases r0.own with ⟨h1,⟨e,e2⟩|⟨b,cap',cur,e,hbb,hg,hn,hm2,hs,ht⟩⟩
  · simp only[] at e2;omega
  · simp only[Rw.v] at e
    injection e with e1 e2 e3
    subst e1 e3
    have hjk:=r0.jk b rfl
    have hlt:=lt_of_some hjk
    have hneB:∀ x∈B,x.b≠b:=fun x hx e=>r0.ap b rfl (List.mem_map.2 ⟨x,hx,e⟩)
    have gw:Gw h (h.setIfInBounds b (.cells cur ty)):=⟨by simp,fun c hc=>by
      by_cases e:b=c
      · subst e;exact .inr hjk
      · left;rw[Array.getElem?_setIfInBounds_ne e]⟩
    have hcur:cur.toList=l.flatMap f++cur.toList.drop (l.length*sz):=by
      simp only[] at ht
      rw[←ht,List.take_append_drop]
    refine ⟨h.setIfInBounds b (.cells cur ty),b,cur.toList.drop (l.length*sz),⟨s.g0,⟨⟨s.st.up.ext,⟨by simp;exact s.st.up.gr.size,fun c hc=>?_⟩,⟨by simp;exact s.st.up.g.size,fun c=>?_⟩⟩,s.st.own,?_,s.st.lo,s.st.nd⟩,?_,s.ap.sublist (List.eraseIdx_sublist R j),?_,⟨hbb,hty',?_⟩,s.f.gw s.mo gw⟩,rfl,hn⟩
    · rw[Array.getElem?_setIfInBounds_ne oM];exact s.st.up.gr.blk c hc
    · by_cases e:b=c
      · subst e;left;rw[Array.getElem?_setIfInBounds_self_of_lt hlt];exact hg.symm
      · rw[Array.getElem?_setIfInBounds_ne e];exact s.st.up.g.blk c
    · intro x hx
      rw[Array.getElem?_setIfInBounds_ne (Ne.symm (hneB x hx))];exact s.st.jk x hx
    · intro r hr
      refine (s.ro r (List.mem_of_mem_eraseIdx hr)).pubo (u:=.slice (some ⟨b,0,none⟩) l.length c) (fun c' hc=>?_) (by have:=hne r hr;rw[e0] at this;exact this)
      rw[Array.getElem?_setIfInBounds_ne (fun e=>hc (by rw[←e];rfl))]
    · intro p hp
      rcases List.mem_cons.1 hp with rfl|hp
      · exact fun _ _ u x=>x.gw u
      · exact s.mo p hp
    · rw[←hcur,Array.getElem?_setIfInBounds_self_of_lt hlt]
end ss
theorem take_drop_get {vs cs:List Value}{o:Nat}(h:(vs.drop o).take cs.length=cs)(i:Nat)(v:Value)(hv:cs[i]?=some v):vs[o+i]?=some v:=by
  have hi:i<cs.length:=(List.getElem?_eq_some_iff.1 hv).1
  rw[←h,List.getElem?_take_of_lt hi,List.getElem?_drop] at hv
  exact hv
section laws
variable {M:Ms} {P:Program} {n:Nat} {N R:Po} {X:Nat→Po} {ops:Array Oper} {k k0:Nat} {hr:Hp} {AL:List Al} {L:Array Bool} {Γ:Env} {w:World} {h:Hp} {w0:World} {h0:Hp} {B:List Bx} {Rs:List Rw} {F:List (Hp→Prop)}
theorem putAt_len:∀ (cs vs:List Value) (o:Nat),(putAt vs o cs).length=vs.length
  | [],_,_=>rfl
  | c::cs,vs,o=>by show (putAt (vs.set o c) (o+1) cs).length=_;rw[putAt_len,List.length_set]
theorem SlO.flat {α:Type}{sz:Nat}{f:α→List Value}{d:α}{A:Option Addr}:∀ {l:List α},(∀ x,(f x).length=sz)→SlO sz f d h A l→Seg h (aB A) (aO A) (l.flatMap f)
  | l,hf,s=>fun i v hv=>by
    have hi:i<(l.flatMap f).length:=(List.getElem?_eq_some_iff.1 hv).1
    rw[len_flat hf] at hi
    rcases Nat.eq_zero_or_pos sz with h0'|hp
    · subst h0';simp at hi
    · have hk:i/sz<l.length:=(Nat.div_lt_iff_lt_mul hp).2 hi
      have hr:i%sz<sz:=Nat.mod_lt _ hp
      have he:=s.el (i/sz) hk (i%sz) v
      have hd:=drop_flat hf d l (i/sz) hk
      have hm:i/sz*sz+i%sz=i:=by rw[Nat.mul_comm];exact Nat.div_add_mod i sz
      have:=he (by rw[←hd,List.getElem?_take_of_lt hr,List.getElem?_drop,hm];exact hv)
      rwa [Nat.add_assoc,hm] at this
theorem seg_newsO {b o:Nat}{news:List Value}(g:G w h)(sg:Seg h b o news):∀ j u,news[j]?=some u→w.cell? ((⟨b,o,none⟩:Addr).add j)=some u:=by
  intro j u hu
  have:=hcell_w g (sg j u hu)
  unfold Addr.add
  split
  · rename_i h0;subst h0;exact this
  · exact this
theorem flat_row {α:Type}{f:α→List Value}{l m:List α}:l.flatMap f++m.flatMap f=(l++m).flatMap f:=by simp
theorem lYs {α:Type}(t j:Nat)(ty:TypeId)(sz c:Nat)(A:Option Addr)(l:List α)(f:α→List Value)(d:α)(A2:Option Addr)(m:List α)(c2 bt:Nat)(z:Value)(s:SS w0 h0 w h B Rs F)(so:SlO sz f d h A2 m)(hm0:0<m.length)
    (H:∀ A' c' w' h',SS w0 h0 w' h' B (Rs.set j ⟨ty,sz,A',c',(l++m).length,(l++m).flatMap f⟩) F→LG P n N R X ops (k+1) ((t,.slice A' (l++m).length c')::Γ) w')
    (hc:cL ops Γ k t n=true:=by kernel_rfl)(he:apE P (ev Γ) (opAt ops k)=some (.slice A l.length c,.slice A2 m.length c2,ty,z,sz,bt):=by kernel_rfl)(hf:∀ x,(f x).length=sz:=by intro _;rfl)(h1:∀ x,(f x).all (·.oneCell')=true:=by intro _;kernel_rfl)(hzs:z.cells.size=sz:=by kernel_rfl)(hpos:0<sz:=by decide)
    (hr:Rs.getD j default=⟨ty,sz,A,c,l.length,l.flatMap f⟩:=by kernel_rfl)(hj:decide (j<Rs.length)=true:=by kernel_rfl)(hm:l.length+m.length≤1099511627776:=by omega)(hb:(l.length+m.length)*bt≤140737488355328:=by omega):LG P n N R X ops k Γ w:=by
  have hj':=oT hj
  have hA:=so.ok hm0
  rw[hA] at he
  refine lYn t j (m.flatMap f) s (seg_newsO s.g (so.flat hf)) (len_flat hf m) (fun u hu=>?_) hj' (rw_get hr hj') hc he hzs hpos hm hb (fun A' c' w' h' s'=>?_)
  · obtain ⟨x,_,hx⟩:=List.mem_flatMap.1 hu
    exact (List.all_eq_true.1 (h1 x)) u hx
  · have e1:l.length+m.length=(l++m).length:=by simp
    rw[flat_row,e1] at s'
    rw[e1]
    exact H A' c' w' h' s'
theorem SS.newr {α:Type}{f:α→List Value}{l:List α}{sz:Nat}(s:SS w0 h0 w h B Rs F)(ty:TypeId)(hf:∀ x,(f x).length=sz)(hm:l.length≤maxLen):SS w0 h0 (w.alloc (.cells (l.flatMap f).toArray ty (0,0))) (h.push junk) B (⟨ty,sz,some ⟨w.heap.size,0,none⟩,l.length,l.length,l.flatMap f⟩::Rs) F:=by
  have u:Up w h (w.alloc (.cells (l.flatMap f).toArray ty (0,0))) (h.push junk):=Up.allocAny s.g _ _ (.inr rfl)
  have s1:=s.step u
  refine ⟨s1.g0,s1.st,fun r hr=>?_,List.pairwise_cons.2 ⟨fun r hr=>?_,s1.ap⟩,s1.mo,s1.f⟩
  · rcases List.mem_cons.1 hr with rfl|hr
    · refine ⟨⟨len_flat hf l,.inr ⟨w.heap.size,l.length,(l.flatMap f).toArray,rfl,by rw[s.g.size];exact s.st.sz,?_,Nat.le_refl _,hm,?_,?_⟩⟩,fun b hb=>?_,fun b hb hm=>?_⟩
      · rw[heap_alloc];exact Array.getElem?_push_size
      · simp[←len_flat hf l]
      · show List.take (l.length*sz) (l.flatMap f)=_
        rw[←len_flat hf l];exact List.take_length
      · simp[Rw.v,Value.ownBlock] at hb
        subst hb
        rw[s.g.size];exact Array.getElem?_push_size
      · simp[Rw.v,Value.ownBlock] at hb
        obtain ⟨x,hx,e⟩:=List.mem_map.1 hm
        have:=(s.st.own x hx).lt
        have e':x.b=b:=e
        omega
    · exact s1.ro r hr
  · intro b hb hb'
    have:=own_lt (s.ro r hr).own hb'
    simp[Rw.v,Value.ownBlock] at hb
    omega
theorem lRw {α:Type}(t:Nat)(ty:TypeId)(sz:Nat)(f:α→List Value)(l:List α)(s:SS w0 h0 w h B Rs F)(H:∀ b w' h',SS w0 h0 w' h' B (⟨ty,sz,some ⟨b,0,none⟩,l.length,l.length,l.flatMap f⟩::Rs) F→LG P n N R X ops (k+1) ((t,.slice (some ⟨b,0,none⟩) l.length l.length)::Γ) w')(hc:cL ops Γ k t n=true:=by kernel_rfl)
    (hr:(execOp (ev Γ) (opAt ops k)).run P w=.ok (.value (.slice (some ⟨w.heap.size,0,none⟩) l.length l.length)) (w.alloc (.cells (l.flatMap f).toArray ty (0,0))):=by kernel_rfl)(hf:∀ x,(f x).length=sz:=by intro _;rfl)(hm:Nat.ble l.length 1000=true:=by kernel_rfl):LG P n N R X ops k Γ w :=
  LG.val t _ _ (cL_1 hc).1 (cL_1 hc).2 hr (H _ _ _ (s.newr ty hf (by have:=Nat.le_of_ble_eq_true hm;unfold maxLen;omega)))
theorem lPu (j o:Nat)(cs:List Value)(s:SS w0 h0 w h B Rs F)(H:∀ w',Put (bxAt B j).b w w'→SS w0 h0 w' h (setB B j o cs) Rs F→LG P n N R X ops (k+1) Γ w')(hc:cS ops Γ k=true:=by kernel_rfl)
    (hj:(decide (j<B.length) && decide (o+cs.length≤(bxAt B j).vs.length))=true:=by kernel_rfl)(he:evalW P (execOp (ev Γ) (opAt ops k))=some (.skip,mkl (bxAt B j).b o cs):=by kernel_rfl):LG P n N R X ops k Γ w :=
  LG.put j o cs s.st s.g0 (cS_1 hc).1 (cS_1 hc).2 hj he (fun w' p s'=>H w' p (s.put0 (oT (Bool.and_eq_true _ _▸hj).1) p s' (setB_b (oT (Bool.and_eq_true _ _▸hj).1))))
theorem tX (i t:Nat)(A:Option Addr)(len cap sz:Nat)(x:Int)(j:Nat)(hA:A=some ⟨aB A,aO A,none⟩)(H:AG M P n N R X ops k0 (L.setIfInBounds i true) ((t,.pointer (some ⟨aB A,aO A+j*sz,none⟩))::Γ) w)(hc:cT n ops k0 L Γ i t=true:=by kernel_rfl)(he:ixE P (ev Γ) (opAt ops i)=some (.slice A len cap,.int .i64 x,sz):=by kernel_rfl)(hk:x=j:=by omega)(hlt:j<len:=by omega):AG M P n N R X ops k0 L Γ w :=
  T.val i t _ w (cT_1 hc).1 (cT_1 hc).2 (ixE_run he hA hk hlt w) H
theorem SS.blkp {F1:List (Hp→Prop)}{wr:World}{x:Al}{b:Nat}(pre:List Bx)(sr:SS w0 h0 wr hr B Rs F1)(s:SS w0 h0 w h (pre++B) Rs F)(k:Blk hr w h (x,b))(t:TypeId)(vs:List Value)(ho:x.o=.cells vs.toArray t (0,0))(hp:pre.all (fun y=>y.t != t)=true):SS w0 h0 w h (⟨b,t,vs⟩::(pre++B)) Rs F :=
  ⟨s.g0,St.new sr.st s.st (fun y hy=>by
    rcases List.mem_append.1 hy with hy|hy
    · right
      intro e
      have h1:=s.st.own y (List.mem_append_left _ hy)
      have h2:w.heap[b]?=some x.o:=k.1
      unfold Own at h1
      rw[e,h2,ho] at h1
      injection h1 with h1
      injection h1 with _ h3
      have:=(List.all_eq_true.1 hp) y hy
      simp only[bne_iff_ne,ne_eq] at this
      exact this h3.symm
    · exact .inl (lt_of_some (sr.st.jk y hy))) k t vs ho,fun r hr'=>(s.ro r hr').new b (fun c hc e=>by
    have h1:=(sr.ro r hr').lt hc
    have h2:hr.size≤b:=k.2.2
    omega),s.ap,s.mo,s.f⟩
theorem eD1p {F1:List (Hp→Prop)}{wr:World}{x:Al}(pre:List Bx)(sr:SS w0 h0 wr hr B Rs F1)(s:SS w0 h0 w h (pre++B) Rs F)(t:TypeId)(vs:List Value)(H:∀ w' h' b,SS w0 h0 w' h' (⟨b,t,vs⟩::(pre++B)) Rs F→AG M P n N R X ops k0 (L.setIfInBounds x.i true) ((x.t,.pointer (some ⟨b,0,none⟩))::Γ) w')(hc:(chkFin ops [x] L && decide (x.t<n))=true:=by kernel_rfl)(ho:x.o=.cells vs.toArray t (0,0):=by kernel_rfl)(hp:pre.all (fun y=>y.t != t)=true:=by kernel_rfl):EG M P n N R X ops k0 hr [x] L Γ w h :=
  Rg.fin1 hc (fun w' h' b u k=>H w' h' b (SS.blkp pre sr (s.step u) k t vs ho hp))
end laws
theorem SS.at_ {w:World}{h:Hp}{rb:Nat}{t:TypeId}{vs:List Value}(g:G w h)(o:Own w rb t vs)(j:h[rb]?=some junk):∃ w0 h0,SS w0 h0 w h [⟨rb,t,vs⟩] [] []:=by
  obtain ⟨w0,h0,g0,st⟩:=St.at_ g o j
  exact ⟨w0,h0,g0,st,fun _ hx=>(by cases hx),.nil,fun _ hx=>(by cases hx),trivial⟩
theorem SlO.take {α:Type}{sz:Nat}{f:α→List Value}{d:α}{h:Hp}{A:Option Addr}{l:List α}(s:SlO sz f d h A l)(k:Nat):SlO sz f d h A (l.take k) :=
  ⟨fun hp=>s.ok (by rw[List.length_take] at hp;omega),fun i hi=>by
    rw[List.length_take] at hi
    have:=s.el i oM
    rwa [List.getD_eq_getElem?_getD,List.getElem?_take_of_lt oM,←List.getD_eq_getElem?_getD]⟩
theorem SlO.drop {α:Type}{sz:Nat}{f:α→List Value}{d:α}{h:Hp}{A:Option Addr}{l:List α}(s:SlO sz f d h A l)(k c:Nat)(hc:l.length≤c):SlO sz f d h (if c=k then A else A.map (·.add (k*sz))) (l.drop k):=by
  rcases Nat.lt_or_ge k l.length with hk|hk
  · rw[if_neg oM]
    have hA:=s.ok oM
    have hadd:(⟨aB A,aO A,none⟩:Addr).add (k*sz)=⟨aB A,aO A+k*sz,none⟩:=by
      unfold Addr.add
      split
      · rename_i h0;rw[h0];rfl
      · rfl
    have e:A.map (·.add (k*sz))=some ⟨aB A,aO A+k*sz,none⟩:=by rw[hA];simp only[Option.map_some,aB,aO] at hadd ⊢;rw[←hadd]
    refine ⟨fun _=>by rw[e];rfl,fun i hi=>?_⟩
    rw[e]
    show Seg h (aB A) (aO A+k*sz+i*sz) _
    rw[List.length_drop] at hi
    have:=s.el (k+i) oM
    rw[Nat.add_mul,←Nat.add_assoc] at this
    rwa [List.getD_eq_getElem?_getD,List.getElem?_drop,←List.getD_eq_getElem?_getD]
  · rw[List.drop_eq_nil_of_le hk];exact SlO.nil
section ss
variable {w0:World} {h0:Hp} {w:World} {h:Hp} {B:List Bx} {R:List Rw} {F:List (Hp→Prop)}
theorem SS.rowA (s:SS w0 h0 w h B R F)(j:Nat){ty:TypeId}{sz c m:Nat}{A:Option Addr}{cs:List Value}(hpos:0<m)(hr:R.getD j default=⟨ty,sz,A,c,m,cs⟩:=by kernel_rfl)(hj:decide (j<R.length)=true:=by kernel_rfl):∃ b,A=some ⟨b,0,none⟩:=by
  have hj':=oT hj
  have r:=s.ro _ (List.getElem_mem hj')
  rw[rw_get hr hj'] at r
  rcases r.own with ⟨_,⟨_,e⟩|⟨b,cap,cur,e,_⟩⟩
  · simp only[] at e;omega
  · simp only[Rw.v] at e
    injection e with e
    exact ⟨b,e⟩
theorem SS.rowO (s:SS w0 h0 w h B R F)(j:Nat){ty:TypeId}{sz c m b:Nat}{cs:List Value}(hr:R.getD j default=⟨ty,sz,some ⟨b,0,none⟩,c,m,cs⟩)(hj:j<R.length):∃ vs:List Value,Own w b ty vs∧vs.take (m*sz)=cs∧cs.length=m*sz∧h0.size≤b∧m≤c∧c≤maxLen∧vs.length=c*sz:=by
  have r:=s.ro _ (List.getElem_mem hj)
  rw[rw_get hr hj] at r
  rcases r.own with ⟨h1,⟨e,_⟩|⟨g,cap,cur,e,hb,hg,hn,hm,hs,ht⟩⟩
  · simp[Rw.v] at e
  · simp only[Rw.v] at e
    injection e with e1 e2 e3
    injection e1 with e1
    injection e1 with e1
    subst e1 e3
    exact ⟨cur.toList,by simpa [Own] using hg,ht,h1,hb,hn,hm,by simpa using hs⟩
theorem take_get {vs cs:List Value}{k i:Nat}{v:Value}(h:vs.take k=cs)(hv:cs[i]?=some v):vs[i]?=some v:=by
  have hi:i<cs.length:=(List.getElem?_eq_some_iff.1 hv).1
  rw[←h] at hi
  rw[List.length_take] at hi
  rw[←h,List.getElem?_take_of_lt oM] at hv
  exact hv
theorem putAt_take:∀ (cs vs:List Value) (o k:Nat),o+cs.length≤k→(putAt vs o cs).take k=putAt (vs.take k) o cs
  | [],_,_,_,_=>rfl
  | c::cs,vs,o,k,h=>by
    show (putAt (vs.set o c) (o+1) cs).take k=putAt ((vs.take k).set o c) (o+1) cs
    rw[putAt_take cs _ _ _ (by simp only[List.length_cons] at h;omega),List.take_set]
theorem SS.rowput (s:SS w0 h0 w h B R F)(j:Nat){ty:TypeId}{sz c m b o:Nat}{cs ds:List Value}{w':World}{vs:List Value}(hr:R.getD j default=⟨ty,sz,some ⟨b,0,none⟩,c,m,cs⟩)(hj:j<R.length)(p:Put b w w')(ho:Own w' b ty (putAt vs o ds))(hv:vs.take (m*sz)=cs)(hvl:vs.length=c*sz)(hl:o+ds.length≤cs.length):SS w0 h0 w' h B (R.set j ⟨ty,sz,some ⟨b,0,none⟩,c,m,putAt cs o ds⟩) F:=by
  have e0:=rw_get hr hj
  have r:=s.ro _ (List.getElem_mem hj)
  rw[e0] at r
  have hjk:=r.jk b rfl
  obtain ⟨_,_,_,hcl,hlo,hmc,hcm,_⟩:=s.rowO j hr hj
  have hne:∀ x∈B,x.b≠b:=fun x hx e=>r.ap b rfl (List.mem_map.2 ⟨x,hx,e⟩)
  have hp:=List.pairwise_iff_getElem.1 s.ap
  refine ⟨s.g0,⟨s.st.up.put p hjk hlo s.g0.size,?_,s.st.jk,s.st.lo,s.st.nd⟩,?_,?_,s.mo,s.f⟩
  · intro x hx
    show w'.heap[x.b]?=_
    rw[p.blk _ (hne x hx)]
    exact s.st.own x hx
  · intro x hx
    obtain ⟨i,hi,he⟩:=List.mem_iff_getElem.1 hx
    have hi':i<R.length:=by simpa using hi
    by_cases e:j=i
    · subst e
      simp only[List.getElem_set_self] at he
      rw[←he]
      refine ⟨⟨?_,.inr ⟨b,c,(putAt vs o ds).toArray,rfl,hlo,ho,hmc,hcm,by simp[putAt_len,hvl],?_⟩⟩,r.jk,r.ap⟩
      · show (putAt cs o ds).length=m*sz;rw[putAt_len];exact hcl
      · show (putAt vs o ds).take (m*sz)=putAt cs o ds
        rw[putAt_take _ _ _ _ oM,hv]
    · rw[List.getElem_set_ne e] at he
      rw[←he]
      have hap:Apart R[i].v R[j].v:=by
        rcases Nat.lt_or_gt_of_ne e with hl'|hl'
        · exact (hp j i hj hi' hl').symm
        · exact hp i j hi' hj hl'
      rw[e0] at hap
      have ri:=s.ro _ (List.getElem_mem hi')
      exact ⟨own_block ri.own (fun d hd=>p.blk d (fun ed=>hap d hd (by rw[ed];rfl))),ri.jk,ri.ap⟩
  · refine List.pairwise_iff_getElem.2 (fun i k hi hk hik=>?_)
    have hi':i<R.length:=by simpa using hi
    have hk':k<R.length:=by simpa using hk
    have:=hp i k hi' hk' hik
    by_cases e:j=i
    · subst e
      rw[List.getElem_set_self,List.getElem_set_ne oM]
      rw[e0] at this
      exact this
    · by_cases e2:j=k
      · subst e2
        rw[List.getElem_set_self,List.getElem_set_ne oM]
        rw[e0] at this
        exact this
      · rw[List.getElem_set_ne e,List.getElem_set_ne e2]
        exact this
theorem SS.rown (s:SS w0 h0 w h B R F)(R':List Rw)(e:R=R'):SS w0 h0 w h B R' F:=e▸s
end ss
theorem putAt_part {α:Type}{f:α→List Value}{sz:Nat}(hf:∀ x,(f x).length=sz)(d:α){o:Nat}{cs:List Value}:∀ (l:List α) (k:Nat) (x:α),k<l.length→o+cs.length≤sz→putAt (f (l.getD k d)) o cs=f x→putAt (l.flatMap f) (k*sz+o) cs=(l.set k x).flatMap f
  | [],k,x,h,_,_=>by simp at h
  | y::l,0,x,h,ho,e=>by
    simp only[List.flatMap_cons,Nat.zero_mul,Nat.zero_add,List.set_cons_zero,List.getD_cons_zero] at e ⊢
    rw[←e]
    exact putAt_left _ _ _ _ (by rw[hf];exact ho)
  | y::l,k+1,x,h,ho,e=>by
    simp only[List.flatMap_cons,List.set_cons_succ,List.getD_cons_succ] at e ⊢
    rw[Nat.succ_mul,show k*sz+sz+o=(f y).length+(k*sz+o) by rw[hf];omega,putAt_append,putAt_part hf d l k x (by simpa using h) ho e]
where
  putAt_left:∀ (cs a b:List Value) (o:Nat),o+cs.length≤a.length→putAt (a++b) o cs=putAt a o cs++b
    | [],_,_,_,_=>rfl
    | c::cs,a,b,o,h=>by
      show putAt ((a++b).set o c) (o+1) cs=putAt (a.set o c) (o+1) cs++b
      simp only[List.length_cons] at h
      rw[List.set_append_left _ _ oM,putAt_left cs _ b _ (by rw[List.length_set];omega)]
section laws
variable {M:Ms} {P:Program} {n:Nat} {N R:Po} {X:Nat→Po} {ops:Array Oper} {k k0:Nat} {hr:Hp} {AL:List Al} {L:Array Bool} {Γ:Env} {w:World} {h:Hp} {w0:World} {h0:Hp} {B:List Bx} {Rs:List Rw} {F:List (Hp→Prop)}
theorem SS.rowrun {α:Type}{w':World}{sem:Sem α}{r:α}(s:SS w0 h0 w h B Rs F)(j:Nat){ty:TypeId}{sz c m b o:Nat}{cs ds:List Value}(hr':Rs.getD j default=⟨ty,sz,some ⟨b,0,none⟩,c,m,cs⟩)(hj:j<Rs.length)(hds:(cs.drop o).take ds.length=ds)(x:Ext w w')(he:evalL P sem ds=some (r,mka b o ds.length)):sem.run P w'=.ok r w':=by
  obtain ⟨vs,ho,hv,_⟩:=s.rowO j hr' hj
  exact evalL_run _ _ _ _ he (fun i a v ha hv'=>by rw[mka_get _ _ _ _ _ ha,(ho.ext x).cell];exact take_get hv (take_drop_get hds i v hv'))
theorem lRq (t j:Nat)(v:Value)(ds:List Value){ty:TypeId}{sz c m b o:Nat}{cs:List Value}(s:SS w0 h0 w h B Rs F)(hds:(cs.drop o).take ds.length=ds)(H:LG P n N R X ops (k+1) ((t,v)::Γ) w)(hr':Rs.getD j default=⟨ty,sz,some ⟨b,0,none⟩,c,m,cs⟩:=by kernel_rfl)(hj:decide (j<Rs.length)=true:=by kernel_rfl)(hc:cL ops Γ k t n=true:=by kernel_rfl)(he:evalL P (execOp (ev Γ) (opAt ops k)) ds=some (.value v,mka b o ds.length):=by kernel_rfl):LG P n N R X ops k Γ w :=
  LG.val t v w (cL_1 hc).1 (cL_1 hc).2 (s.rowrun j hr' (oT hj) hds (Ext.refl _) he) H
theorem lRp (j o:Nat)(ds:List Value){ty:TypeId}{sz c m b:Nat}{cs:List Value}(s:SS w0 h0 w h B Rs F)(hl:o+ds.length≤cs.length)(H:∀ w',SS w0 h0 w' h B (Rs.set j ⟨ty,sz,some ⟨b,0,none⟩,c,m,putAt cs o ds⟩) F→LG P n N R X ops (k+1) Γ w')(hr':Rs.getD j default=⟨ty,sz,some ⟨b,0,none⟩,c,m,cs⟩:=by kernel_rfl)(hj:decide (j<Rs.length)=true:=by kernel_rfl)(hc:cS ops Γ k=true:=by kernel_rfl)
    (he:evalW P (execOp (ev Γ) (opAt ops k))=some (.skip,mkl b o ds):=by kernel_rfl):LG P n N R X ops k Γ w:=by
  have hj':=oT hj
  obtain ⟨vs,ho,hv,hcl,_,hmc,_,hvl⟩:=s.rowO j hr' hj'
  have hle:o+ds.length≤vs.length:=by
    have:=congrArg List.length hv
    rw[List.length_take] at this
    omega
  obtain ⟨w',hrun,hp,ho'⟩:=evalW_run _ _ o ds vs w he ho hle
  exact LG.store w' (cS_1 hc).1 (cS_1 hc).2 hrun (H w' (s.rowput j hr' hj' hp ho' hv hvl hl))
theorem eRq (i t j:Nat)(v:Value)(ds:List Value){ty:TypeId}{sz c m b o:Nat}{cs:List Value}(s:SS w0 h0 w h B Rs F)(hds:(cs.drop o).take ds.length=ds)(H:EG ⟨[],none⟩ P n N R X ops k0 hr AL (L.setIfInBounds i true) ((t,v)::Γ) w h)(hr':Rs.getD j default=⟨ty,sz,some ⟨b,0,none⟩,c,m,cs⟩:=by kernel_rfl)(hj:decide (j<Rs.length)=true:=by kernel_rfl)(hc:cEl n ops k0 AL L Γ i t=true:=by kernel_rfl)(he:evalL P (execOp (ev Γ) (opAt ops i)) ds=some (.value v,mka b o ds.length):=by kernel_rfl):EG ⟨[],none⟩ P n N R X ops k0 hr AL L Γ w h :=
  Rg.load i t v (cEl_1 hc).1 (cEl_1 hc).2 (fun _ hx=>s.rowrun j hr' (oT hj) hds hx.ext he) H
end laws
theorem imin2 (x y:Int):(if y<x then y else x)=min x y:=by omega
section z
variable {bs:List Nat} {P:Program} {n:Nat} {N R:Po} {X:Nat→Po} {ops:Array Oper} {k0:Nat} {hr:Hp} {AL:List Al} {L:Array Bool} {Γ:Env} {w wr:World} {h:Hp} {w0:World} {h0:Hp} {B:List Bx} {Rs:List Rw} {F F1:List (Hp→Prop)}
abbrev Mz (hr:Hp)(bs:List Nat):Ms:=⟨[],some (hr.size,bs)⟩
theorem cRz {id:Nat}{d:Bool}(k0:Nat)(AL:List Al)(bs:List Nat)(hm:P.follows .mixedOrders=true)(s:SS w0 h0 w h B Rs F)(oks:∀ x∈AL,AlOk P ops k0 x)(H:EG (Mz h bs) P n N R X ops k0 h AL (Array.replicate ops.size false) Γ w h)(hord:ordered ops=true:=by kernel_rfl):CG P n N R X (.region id ops d) Γ w :=
  CG.region (Mz h bs) k0 AL hm hord s.g oks (fun _ hb=>by cases hb) H
theorem own_z (sr:SS w0 h0 wr hr B Rs F1)(s:SS w0 h0 w h B Rs F){w':World}(hx:∀ b,b<hr.size→b ∉ bs→b ∉ ([]:List Nat)→w'.heap[b]?=w.heap[b]?):∀ x∈B,x.b ∉ bs→Own w' x.b x.t x.vs:=fun x hm hb =>
  (hx x.b (lt_of_some (sr.st.jk x hm)) hb List.not_mem_nil).trans (s.st.own x hm)
theorem eOz (i t:Nat)(ps:List (Nat × Nat × Nat))(v:Value)(sr:SS w0 h0 wr hr B Rs F1)(s:SS w0 h0 w h B Rs F)(H:EG (Mz hr bs) P n N R X ops k0 hr AL (L.setIfInBounds i true) ((t,v)::Γ) w h)(hM:∀ p∈ps,(bxAt B p.1).b ∉ bs:=by intro _ _;exact List.not_mem_nil)(hc:cE n ops k0 AL L Γ i t=true:=by kernel_rfl)(hp:partsOk B ps=true:=by kernel_rfl)(he:evalL P (execOp (ev Γ) (opAt ops i)) (partsV B ps)=some (.value v,partsA B ps):=by kernel_rfl):EG (Mz hr bs) P n N R X ops k0 hr AL L Γ w h :=
  Rg.loadZ i t v rfl (cE_1 hc).1 (cE_1 hc).2 (fun w' hx=>evalL_run _ _ _ _ he (parts_cellsM hM (own_z sr s hx) ps (fun _ h=>h) hp)) H
theorem eHz (i t:Nat)(v:Value){b o:Nat}{cs:List Value}(s:SS w0 h0 w h B Rs F)(sg:Seg h b o cs)(hb:b<hr.size)(H:EG (Mz hr bs) P n N R X ops k0 hr AL (L.setIfInBounds i true) ((t,v)::Γ) w h)(hM:b ∉ bs:=by exact List.not_mem_nil)(hc:cE n ops k0 AL L Γ i t=true:=by kernel_rfl)(he:evalL P (execOp (ev Γ) (opAt ops i)) cs=some (.value v,mka b o cs.length):=by kernel_rfl):EG (Mz hr bs) P n N R X ops k0 hr AL L Γ w h :=
  Rg.loadZ i t v rfl (cE_1 hc).1 (cE_1 hc).2 (fun w' hx=>evalL_run _ _ _ _ he (fun q a u ha hu=>by
    rw[mka_get _ _ _ _ _ ha]
    have:=hcell_w s.g (sg q u hu)
    unfold World.cell? at this ⊢
    rw[hx b hb hM List.not_mem_nil]
    exact this)) H
theorem eD2z {x y:Al}(sr:SS w0 h0 wr hr B Rs F)(s:SS w0 h0 w h B Rs F)(t:TypeId)(vs:List Value)(t2:TypeId)(vs2:List Value)(H:∀ w' h' b c,hr.size≤b→hr.size≤c→SS w0 h0 w' h' (⟨b,t,vs⟩::⟨c,t2,vs2⟩::B) Rs F→AG (Mz hr bs) P n N R X ops k0 ((L.setIfInBounds y.i true).setIfInBounds x.i true) ((x.t,.pointer (some ⟨b,0,none⟩))::(y.t,.pointer (some ⟨c,0,none⟩))::Γ) w')(hc:(chkFin ops [x,y] L && decide (x.t<n) && decide (y.t<n) && (x.t != y.t) && (x.i != y.i))=true:=by kernel_rfl)(ho:x.o=.cells vs.toArray t (0,0):=by kernel_rfl)(ho2:y.o=.cells vs2.toArray t2 (0,0):=by kernel_rfl):EG (Mz hr bs) P n N R X ops k0 hr [x,y] L Γ w h :=
  Rg.fin2 hc (fun w' h' b c u k k2 hne=>H w' h' b c k.2.2 k2.2.2 ⟨s.g0,St.new2 sr.st (s.st.step u) k k2 hne t vs ho t2 vs2 ho2,fun r hr'=>(((s.step u).ro r hr').new c (fun d hd e=>by
    have h1:=(sr.ro r hr').lt hd
    have h2:hr.size≤c:=k2.2.2
    omega)).new b (fun d hd e=>by
    have h1:=(sr.ro r hr').lt hd
    have h2:hr.size≤b:=k.2.2
    omega),s.ap,s.mo,(s.step u).f⟩)
theorem tlz_new {b:Nat}(hb:hr.size≤b):∀ K bs',(Mz hr bs).z=some (K,bs')→K≤b∨b∈bs':=fun K bs' e=>by
  injection e with e
  injection e with e1 e2
  subst e1
  exact .inl hb
theorem tlz_mem {b:Nat}(hb:b∈bs):∀ K bs',(Mz hr bs).z=some (K,bs')→K≤b∨b∈bs':=fun K bs' e=>by
  injection e with e
  injection e with e1 e2
  subst e2
  exact .inr hb
end z
theorem row_el {α:Type}{f:α→List Value}{sz:Nat}(hf:∀ x,(f x).length=sz)(d:α)(l:List α)(k:Nat)(hk:k<l.length):((l.flatMap f).drop (0+k*sz)).take (f (l.getD k d)).length=f (l.getD k d):=by
  rw[Nat.zero_add,hf];exact drop_flat hf d l k hk
section row
variable {P:Program} {n:Nat} {N R:Po} {X:Nat→Po} {ops:Array Oper} {k:Nat} {Γ:Env} {w:World} {h:Hp} {w0:World} {h0:Hp} {B:List Bx} {Rs:List Rw} {F:List (Hp→Prop)}
theorem lRs {α:Type}(j e fo:Nat)(ds:List Value)(l:List α)(f:α→List Value)(sz:Nat)(d x:α){ty:TypeId}{c b:Nat}(s:SS w0 h0 w h B Rs F)(hk:e<l.length)(H:∀ w',SS w0 h0 w' h B (Rs.set j ⟨ty,sz,some ⟨b,0,none⟩,c,l.length,(l.set e x).flatMap f⟩) F→LG P n N R X ops (k+1) Γ w')
    (hx:putAt (f (l.getD e d)) fo ds=f x:=by rfl)(hf:∀ x,(f x).length=sz:=by intro _;rfl)(ho:Nat.ble (fo+ds.length) sz=true:=by kernel_rfl)(hr':Rs.getD j default=⟨ty,sz,some ⟨b,0,none⟩,c,l.length,l.flatMap f⟩:=by kernel_rfl)(hj:decide (j<Rs.length)=true:=by kernel_rfl)(hc:cS ops Γ k=true:=by kernel_rfl)
    (he:evalW P (execOp (ev Γ) (opAt ops k))=some (.skip,mkl b (0+e*sz+fo) ds):=by kernel_rfl):LG P n N R X ops k Γ w:=by
  have hle:=Nat.le_of_ble_eq_true ho
  refine lRp j (0+e*sz+fo) ds s ?_ (fun w' s'=>H w' ?_) hr' hj hc he
  · rw[len_flat hf,Nat.zero_add]
    have:(e+1)*sz≤l.length*sz:=Nat.mul_le_mul_right _ hk
    rw[Nat.add_mul,Nat.one_mul] at this
    omega
  · rw[Nat.zero_add,putAt_part hf d l e x hk hle hx] at s'
    exact s'
end row
section rb
variable {w0:World} {h0:Hp} {w:World} {h:Hp} {B:List Bx} {R:List Rw} {F:List (Hp→Prop)}
end rb
theorem append_zero {P:Program}(w:World)(t ty e:TypeId)(i:TypeInfo)(z:Value)(ht:P.underlying t=some (.slice e))(hi:P.info? e=some i)(hz:i.zero=some z)(a0 a:Addr)(m c:Nat)(news:List Value)(hl:news.length=m*i.size)(hnews:∀ j u,news[j]?=some u→w.cell? (a.add j)=some u)(hm:0<m)(h63:m≤1099511627776)(hb:m*i.bytes≤140737488355328) :
    (Builtin.append_ #[t,t] ty #[.slice (some a0) 0 0,.slice (some a) m c]).run P w=(Builtin.append_ #[t,t] ty #[.slice none 0 0,.slice (some a) m c]).run P w:=by
  rw[run_append_grow (P:=P) w t ty e i z ht hi hz a0 0 0 [] (by simp) (by simp) a m c news hl hnews oM oM (growslice_fits oM (by simpa using hb)),
    run_append_nil (P:=P) w t ty e i z ht hi hz a m c news hl hnews oM oM oM]
  simp
section app
variable {M:Ms} {P:Program} {n:Nat} {N R:Po} {X:Nat→Po} {ops:Array Oper} {k k0:Nat} {hr:Hp} {AL:List Al} {L:Array Bool} {Γ:Env} {w:World} {h:Hp} {w0:World} {h0:Hp} {B:List Bx} {Rs:List Rw} {F:List (Hp→Prop)}
theorem app_runE {o:Oper}{x y:Operand}{t e:TypeId}{z:Value}{sz bt m2 c:Nat}{news:List Value}{a0 a:Addr}(ho:o.op=.call { callee:=.builtin .append,args:=#[x,y],argTypes:=#[t,t] })
    (hx:ev Γ x=.slice (some a0) 0 0)(hy:ev Γ y=.slice (some a) m2 c)(hu:P.underlying t=some (.slice e))(hi:(P.info? e).map (fun i=>(i.zero,i.size,i.bytes))=some (some z,sz,bt))(hzs:z.cells.size=sz)(hpos:0<sz)
    (s:St w0 h0 w h B)(hl:news.length=m2*sz)(hnews:∀ j u,news[j]?=some u→w.cell? (a.add j)=some u)(h1:∀ u∈news,u.oneCell'=true)(hm0:0<m2)
    (hm:m2≤1099511627776)(hb:m2*bt≤140737488355328) :
    ∃ v' w',(execOp (ev Γ) o).run P w=.ok (.value v') w'∧w'.ownsRow h0.size e sz v' (0+m2) ([]++news)∧w.grownBy w' (Value.slice none 0 0).ownBlock∧(v'.ownBlock=(Value.slice none 0 0).ownBlock∨v'.ownBlock=some w.heap.size):=by
  cases hinf:P.info? e with
  | none=>rw[hinf] at hi;cases hi
  | some inf =>
    rw[hinf] at hi
    simp only[Option.map_some,Option.some.injEq,Prod.mk.injEq] at hi
    obtain ⟨i1,i2,i3⟩:=hi
    obtain ⟨v',w',hrun,h2,h3,h4,h5⟩:=run_append_own_at (P:=P) w h0.size t o.type e inf z sz bt hu hinf i1 i2 i3 hzs hpos (.slice none 0 0) 0 [] (World.ownsRow_nil _ _ _ _) a m2 c news hl hnews h1 (by unfold maxLen;omega) (by rw[Nat.zero_add];exact hb) (by rw[s.g.size];exact s.sz)
    refine ⟨v',w',?_,h2,h3,h5⟩
    rw[←append_zero (P:=P) w t o.type e inf z hu hinf i1 a0 a m2 c news (by rw[i2];exact hl) hnews hm0 hm (by rw[i3];exact hb)] at hrun
    unfold execOp
    simp only[ho,resolve,invoke,builtin,Sem.run_bind,Sem.run_pure,Result.andThen_ok,List.map_toArray,List.map_cons,List.map_nil,hx,hy,hrun]
theorem SS.appE (s:SS w0 h0 w h B Rs F){o:Oper}{ty:TypeId}{sz bt c2 b0:Nat}{z:Value}{α:Type}{f:α→List Value}{d:α}{A2:Option Addr}{m:List α}(he:apE P (ev Γ) o=some (.slice (some ⟨b0,0,none⟩) 0 0,.slice A2 m.length c2,ty,z,sz,bt))(so:SlO sz f d h A2 m)(hm0:0<m.length)(h1:∀ x∈m,(f x).all (·.oneCell')=true)(hf:∀ x,(f x).length=sz)(hzs:z.cells.size=sz)(hpos:0<sz)(hm:m.length≤1099511627776)(hb:m.length*bt≤140737488355328) :
    ∃ A' c' w' h',(execOp (ev Γ) o).run P w=.ok (.value (.slice A' m.length c')) w'∧Up w h w' h'∧SS w0 h0 w' h' B (⟨ty,sz,A',c',m.length,m.flatMap f⟩::Rs) F:=by
  rw[so.ok hm0] at he
  obtain ⟨x',y,ty',ho,hx,hy,hu,hi⟩:=apE_op he
  obtain ⟨v',w',hrun,ow,gr,hloc⟩:=app_runE (P:=P) ho hx hy hu hi hzs hpos s.st (len_flat hf m) (seg_newsO s.g (so.flat hf)) (fun u hu=>by
    obtain ⟨x,hx',hx⟩:=List.mem_flatMap.1 hu
    exact (List.all_eq_true.1 (h1 x hx')) u hx) hm0 hm hb
  obtain ⟨h',A',c',rfl,e2,s'⟩:=(s.nil ty sz).grown (j:=0) (by simp) (w':=w') (v':=v') (m2:=m.length) (news:=m.flatMap f) ow gr hloc
  refine ⟨A',c',w',h',?_,⟨⟨gr.os,gr.tape,gr.output,gr.size,fun c hc=>gr.block c hc (by simp[Value.ownBlock])⟩,e2,s'.g⟩,?_⟩
  · rw[hrun];simp
  · simpa using s'
theorem lYz {α:Type}(t:Nat)(ty:TypeId)(sz:Nat)(f:α→List Value)(d:α)(b0:Nat)(A2:Option Addr)(m:List α)(c2 bt:Nat)(z:Value)(s:SS w0 h0 w h B Rs F)(so:SlO sz f d h A2 m)(hm0:0<m.length)(h1:∀ x∈m,(f x).all (·.oneCell')=true)
    (H:∀ A' c' w' h',SS w0 h0 w' h' B (⟨ty,sz,A',c',m.length,m.flatMap f⟩::Rs) F→LG P n N R X ops (k+1) ((t,.slice A' m.length c')::Γ) w')
    (hc:cL ops Γ k t n=true:=by kernel_rfl)(he:apE P (ev Γ) (opAt ops k)=some (.slice (some ⟨b0,0,none⟩) 0 0,.slice A2 m.length c2,ty,z,sz,bt):=by kernel_rfl)(hf:∀ x,(f x).length=sz:=by intro _;rfl)(hzs:z.cells.size=sz:=by kernel_rfl)(hpos:0<sz:=by decide)(hm:m.length≤1099511627776:=by omega)(hb:m.length*bt≤140737488355328:=by omega):LG P n N R X ops k Γ w:=by
  obtain ⟨A',c',w',h',hrun,_,s'⟩:=s.appE (P:=P) he so hm0 h1 hf hzs hpos hm hb
  exact LG.val t _ w' (cL_1 hc).1 (cL_1 hc).2 hrun (H A' c' w' h' s')
end app
section fin
variable {M:Ms} {P:Program} {n:Nat} {N R:Po} {X:Nat→Po} {ops:Array Oper} {k0:Nat} {hr:Hp} {AL:List Al} {L:Array Bool} {Γ:Env} {w:World} {h:Hp} {w0:World} {h0:Hp} {B:List Bx} {Rs:List Rw} {F:List (Hp→Prop)}
end fin
def u32c (x:Nat):List Value:=[.int .u32 (x:Nat)]
theorem limF_digF:∀ f n:Nat,limF f n=digF 4294967296 f n
  | 0,_=>rfl
  | f+1,n=>by
    unfold limF digF
    split
    · rfl
    · rw[limF_digF f]
theorem lim_dig (n:Nat):lim n=dig 4294967296 n:=limF_digF n n
def Ld (l:List Nat):Prop:=Dg 4294967296 l
theorem Ld.lim (n:Nat):Ld (lim n):=fun x hx=>lim_lt n x hx
theorem Ld.get {l:List Nat}(h:Ld l)(k:Nat):l.getD k 0<4294967296:=Dg.getD h kD k
theorem Ld.set {l:List Nat}(h:Ld l)(k:Nat){x:Nat}(hx:x<4294967296):Ld (l.set k x):=Dg.set h k hx
theorem Ld.rep (n:Nat):Ld (List.replicate n 0):=Dg.rep kD
theorem bval_lim (n:Nat):bval 4294967296 (lim n)=n:=by rw[←nval_bval];exact nval_lim n
theorem lim_of {l:List Nat}(h:Ld l){n:Nat}(e:bval 4294967296 l=n):lim n=l.take (tl l l.length):=by
  rw[←e,←nval_bval];exact lim_nval h
theorem lim_of_len {l:List Nat}(h:Ld l){n:Nat}(e:bval 4294967296 l=n):(lim n).length=tl l l.length:=by
  rw[lim_of h e,List.length_take];have:=tl_le l l.length;omega
theorem lim_lt_pow (n:Nat):n<4294967296^(lim n).length:=by rw[lim_dig];exact lt_dig_len kD n
theorem lim_len_mono {a b:Nat}(h:a≤b):(lim a).length≤(lim b).length:=lim_len_le (Nat.lt_of_le_of_lt h (lim_lt_pow b))
theorem lim_len_le' {a b k:Nat}(h:a≤b)(hb:(lim b).length≤k):(lim a).length≤k:=Nat.le_trans (lim_len_mono h) hb
theorem lim_len_max {a b k:Nat}(ha:(lim a).length≤k)(hb:(lim b).length≤k):(lim (a+b)).length≤k+1:=by
  refine lim_len_le ?_
  have h1:=lim_lt_pow a
  have h2:=lim_lt_pow b
  have h3:4294967296^(lim a).length≤4294967296^k:=Nat.pow_le_pow_right kD ha
  have h4:4294967296^(lim b).length≤4294967296^k:=Nat.pow_le_pow_right kD hb
  rw[Nat.pow_succ]
  omega
theorem lim_len_mul {a b:Nat}:(lim (a*b)).length≤(lim a).length+(lim b).length:=by
  refine lim_len_le ?_
  rw[Nat.pow_add]
  exact Nat.mul_lt_mul'' (lim_lt_pow a) (lim_lt_pow b)
theorem lim_wds (n:Nat):(lim n).length≤2*(wds n).length:=by
  refine lim_len_le ?_
  have:=wds_lt_pow n
  rwa [show (18446744073709551616:Nat)=4294967296^2 by rfl,←Nat.pow_mul] at this
theorem wds_lim (n:Nat):(wds n).length≤(lim n).length:=by
  refine dig_len_le kD ?_
  have:=lim_lt_pow n
  exact Nat.lt_of_lt_of_le this (Nat.pow_le_pow_left kD _)
theorem lim_cmp_len {a b:Nat}(h:(lim a).length<(lim b).length):a<b:=by
  rcases Nat.lt_or_ge a b with hl|hl
  · exact hl
  · have:=lim_len_mono hl;omega
theorem lim_inj {a b:Nat}(h:lim a=lim b):a=b:=by rw[←nval_lim a,←nval_lim b,h]
theorem lim_cmp_at {a b k:Nat}(hlen:(lim a).length=(lim b).length)(hk:k<(lim a).length)(hd:(lim a).drop (k+1)=(lim b).drop (k+1))(hlt:(lim a).getD k 0<(lim b).getD k 0):a<b:=by
  have ea:=bval_split 4294967296 (l:=lim a) (k:=k+1) oM
  have eb:=bval_split 4294967296 (l:=lim b) (k:=k+1) oM
  rw[bval_lim] at ea eb
  rw[hd] at ea
  have ta:=bval_take_succ 4294967296 (l:=lim a) (k:=k) hk
  have tb:=bval_take_succ 4294967296 (l:=lim b) (k:=k) oM
  have la:=bval_lt (Dg.take (Ld.lim a) k)
  rw[List.length_take,Nat.min_eq_left oM] at la
  have hm:4294967296^k*(lim a).getD k 0+4294967296^k≤4294967296^k*(lim b).getD k 0:=by
    rw[←Nat.mul_succ];exact Nat.mul_le_mul_left _ hlt
  omega
def RN (h:Hp)(v:Value)(n:Nat):Prop:=SlV 1 u32c 0 h v (lim n)
def RI (h:Hp)(v:Value)(z:Int):Prop:=∃ A c,v=.agg #[.bool (ineg z),.slice A (lim (iabs z)).length c]∧(lim (iabs z)).length≤c∧SlO 1 u32c 0 h A (lim (iabs z))
def RP (h:Hp)(v:Value)(z:Int)(n:Nat):Prop:=∃ A c B d,v=.agg #[.bool (ineg z),.slice A (lim (iabs z)).length c,.slice B (lim n).length d]∧(lim (iabs z)).length≤c∧(lim n).length≤d∧SlO 1 u32c 0 h A (lim (iabs z))∧SlO 1 u32c 0 h B (lim n)
def RQ (h:Hp)(v:Value)(q:Rat):Prop:=RP h v q.num q.den
theorem RP.gw {h h':Hp}{v:Value}{z:Int}{n:Nat}(r:RP h v z n)(u:Gw h h'):RP h' v z n:=by
  obtain ⟨A,c,B,d,h1,h2,h3,h4,h5⟩:=r
  exact ⟨A,c,B,d,h1,h2,h3,h4.gw u,h5.gw u⟩
theorem RQ.gw {h h':Hp}{v:Value}{q:Rat}(r:RQ h v q)(u:Gw h h'):RQ h' v q:=RP.gw r u
theorem RN.trim {h:Hp}{A:Option Addr}{l:List Nat}{n m cap:Nat}(hd:Ld l)(e:bval 4294967296 l=n)(hm:l.length=m)(hc:m≤cap)(s:SlO 1 u32c 0 h A l):RN h (.slice A (tl l m) cap) n:=by
  subst hm
  have e1:=lim_of_len hd e
  have:=tl_le l l.length
  refine ⟨A,cap,by rw[e1],by omega,?_⟩
  rw[lim_of hd e];exact s.take _
theorem ri_fin {h:Hp}{p b:Bool}{n cap:Nat}{A:Option Addr}(hb:b=(p && decide (0<n)))(hc:(lim n).length≤cap)(hA:SlO 1 u32c 0 h A (lim n)):RI h (.agg #[.bool b,.slice A (lim n).length cap]) (sgn p n):=by
  subst hb
  refine ⟨A,cap,?_,?_,?_⟩
  · rw[ineg_sgn,iabs_sgn]
  · rw[iabs_sgn];exact hc
  · rw[iabs_sgn];exact hA
theorem tl_dec2 {l:List Nat}{m:Nat}(h:0<m)(h0:l.getD (m-1) 0=0):tl l m=tl l (m-1):=by
  obtain ⟨k,rfl⟩:∃ k,m=k+1:=⟨m-1,by omega⟩
  rw[tl_succ,if_pos (by simpa using h0)];rfl
theorem put_step {b:Nat}{z:List Nat}{i c c' s t X:Nat}(hi:i<z.length)(h0:z.getD i 0=0)(inv:bval b z+b^i*c=X)(e:s+b*c'=c+t):bval b (z.set i s)+b^(i+1)*c'=X+b^i*t:=by
  have h1:=bval_set b s hi
  rw[h0,Nat.mul_zero,Nat.add_zero] at h1
  have e2:=congrArg (b^i * ·) e
  simp only[Nat.mul_add] at e2
  rw[Nat.pow_succ,Nat.mul_assoc,h1]
  omega
theorem put_end {b:Nat}{z:List Nat}{c v:Nat}(inv:bval b z+b^z.length*c=v)(h:v<b^z.length):bval b z=v:=by
  rcases Nat.eq_zero_or_pos c with hc|hc
  · subst hc;rw[Nat.mul_zero,Nat.add_zero] at inv;exact inv
  · have:b^z.length*1≤b^z.length*c:=Nat.mul_le_mul_left _ hc
    omega
theorem zero_put {l:List Nat}{k x:Nat}(hk:k<l.length)(h:∀ i,k≤i→l.getD i 0=0):∀ i,k+1≤i→(l.set k x).getD i 0=0:=fun i hi=>by rw[getD_set' hk,if_neg oM];exact h i oM
theorem bsub_end {b:Nat}{z:List Nat}{x y c:Nat}(hd:Dg b z)(inv:bval b z+y=x+b^z.length*c)(hyx:y≤x):bval b z=x-y:=by
  have h1:=bval_lt hd
  rcases Nat.eq_zero_or_pos c with hc|hc
  · subst hc;rw[Nat.mul_zero,Nat.add_zero] at inv;omega
  · have:b^z.length*1≤b^z.length*c:=Nat.mul_le_mul_left _ hc
    omega
theorem sub_put {b:Nat}{z y x:List Nat}{i c c' s:Nat}(hi:i<z.length)(h0:z.getD i 0=0)(inv:bval b z+bval b (y.take i)=bval b (x.take i)+b^i*c)(e:s+y.getD i 0+c=x.getD i 0+b*c') :
    bval b (z.set i s)+bval b (y.take (i+1))=bval b (x.take (i+1))+b^(i+1)*c':=by
  have h1:=bval_set b s hi
  rw[h0,Nat.mul_zero,Nat.add_zero] at h1
  have e2:=congrArg (b^i * ·) e
  simp only[Nat.mul_add] at e2
  rw[bval_take_next,bval_take_next,Nat.pow_succ,Nat.mul_assoc,h1]
  omega
theorem sub32 {x y c t:Nat}(hx:x<4294967296)(hy:y<4294967296)(hc:c≤1)(ht:t=((x+(18446744073709551616-y))%18446744073709551616+(18446744073709551616-c))%18446744073709551616):t%4294967296+y+c=x+4294967296*(t/9223372036854775808)∧t/9223372036854775808≤1:=by
  subst ht
  omega
theorem or_lo2 {r x:Nat}(hx:x<4294967296):r*4294967296 ||| x=r*4294967296+x:=by
  have:=Nat.two_pow_add_eq_or_of_lt (i:=32) (b:=x) oM r
  rw[Nat.mul_comm];exact this.symm
theorem div_rem32 {r x d:Nat}(hd0:0<d)(hr:r<d)(hx:x<4294967296)(hd:d<4294967296) :
    (r*4294967296+x)/d%4294967296=(r*4294967296+x)/d∧r*4294967296+x=d*((r*4294967296+x)/d)+(r*4294967296+x)%d∧(r*4294967296+x)%d<d:=by
  refine ⟨Nat.mod_eq_of_lt ?_,(Nat.div_add_mod _ _).symm,Nat.mod_lt _ hd0⟩
  rw[Nat.div_lt_iff_lt_mul hd0]
  have h1:(r+1)*4294967296≤d*4294967296:=Nat.mul_le_mul_right _ hr
  rw[Nat.mul_comm]
  omega
theorem one_step {b:Nat}{l z:List Nat}{m d r r' q X:Nat}(hm:0<m)(hl:m-1<z.length)(h0:z.getD (m-1) 0=0)(inv:X=d*bval b z+(b^m*r+bval b (l.take m)))(e:r*b+l.getD (m-1) 0=d*q+r') :
    X=d*bval b (z.set (m-1) q)+(b^(m-1)*r'+bval b (l.take (m-1))):=by
  obtain ⟨k,rfl⟩:∃ k,m=k+1:=⟨m-1,by omega⟩
  rw[Nat.add_sub_cancel] at *
  have h1:=bval_set b q hl
  rw[h0,Nat.mul_zero,Nat.add_zero] at h1
  have e2:=congrArg (b^k * ·) e
  simp only[Nat.mul_add] at e2
  rw[inv,h1,bval_take_next,Nat.pow_succ,Nat.mul_add]
  have e3:b^k*(r*b)=b^k*b*r:=by rw[Nat.mul_comm r b,Nat.mul_assoc]
  have e4:b^k*(d*q)=d*(b^k*q):=by ac_rfl
  rw[e3,e4] at e2
  omega
theorem pow32 (k:Nat):(2:Nat)^k=4294967296^(k/32)*2^(k%32):=by
  have:k=32*(k/32)+k%32:=by omega
  conv=>lhs;rw[this,Nat.pow_add,Nat.pow_mul]
theorem shl32 {x p c:Nat}(hp:p<32)(hx:x<4294967296)(hc:c<2^p) :
    (c ||| x*2^p%18446744073709551616)=c+x*2^p∧c+x*2^p<18446744073709551616∧(c+x*2^p)/4294967296<2^p:=by
  have h0:2^p≤2^31:=Nat.pow_le_pow_right kD oM
  have h1:x*2^p≤4294967295*2^p:=Nat.mul_le_mul_right _ oM
  have h2:x*2^p<18446744073709551616:=by omega
  refine ⟨?_,by omega,?_⟩
  · rw[Nat.mod_eq_of_lt h2];exact or_lo p hc
  · rw[Nat.div_lt_iff_lt_mul kD];omega
theorem app_step {b:Nat}{l:List Nat}{i c P Q s x:Nat}{a:List Nat}(hb:0<b)(inv:bval b l+b^l.length*c=b^Q*(P*bval b (a.take i)))(hl:l.length=Q+i)(hs:s=c+x*P)(hx:x=a.getD i 0) :
    bval b (l++[s%b])+b^(l++[s%b]).length*(s/b)=b^Q*(P*bval b (a.take (i+1))):=by
  have e1:b^l.length*s=b^l.length*(s%b)+b^l.length*(b*(s/b)):=by rw[←Nat.mul_add,Nat.mod_add_div]
  have e2:b^l.length*s=b^l.length*c+b^Q*(P*(b^i*x)):=by
    rw[hs,Nat.mul_add,hl,Nat.pow_add]
    congr 1
    ac_rfl
  rw[bval_append,List.length_append,bval_take_next,←hx,Nat.mul_add P,Nat.mul_add (b^Q),←inv]
  show _+b^l.length*(s%b+b*0)+b^(l.length+1)*_=_
  rw[Nat.mul_zero,Nat.add_zero,Nat.pow_succ,Nat.mul_assoc]
  omega
theorem Ld.app {l:List Nat}(h:Ld l){x:Nat}(hx:x<4294967296):Ld (l++[x]):=Dg.append h (Dg.one hx)
theorem shift_fit {a n q m p:Nat}(h:a<4294967296^n)(hp:p≤32)(hm:m=q+(n+1)):a*(4294967296^q*2^p)<4294967296^m:=by
  have h1:(2:Nat)^p≤4294967296:=Nat.le_trans (Nat.pow_le_pow_right kD hp) (Nat.le_refl (2^32))
  subst hm
  rw[Nat.pow_add,Nat.pow_succ]
  have h2:a*2^p<4294967296^n*4294967296:=Nat.lt_of_lt_of_le (Nat.mul_lt_mul_of_pos_right h (Nat.two_pow_pos p)) (Nat.mul_le_mul_left _ h1)
  have e:a*(4294967296^q*2^p)=4294967296^q*(a*2^p):=by ac_rfl
  rw[e]
  exact Nat.mul_lt_mul_of_pos_left h2 (Nat.pow_pos kD)
theorem shr32 {x y p:Nat}(hp:p<32)(hx:x<4294967296)(hy:y<4294967296) :
    (x ||| y*4294967296%18446744073709551616)=x+y*4294967296∧x+y*4294967296<18446744073709551616 ∧
    2^p*((x+y*4294967296)/2^p%4294967296)+x%2^p=x+4294967296*(y%2^p):=by
  have h0:2^p*2^(32-p)=4294967296:=by rw[←Nat.pow_add,show p+(32-p)=32 by omega]
  have hpp:=Nat.two_pow_pos p
  refine ⟨?_,by omega,?_⟩
  · rw[Nat.mod_eq_of_lt oM]
    exact or_lo 32 oM
  · -- y=2^p*y1+y0
    have hy1:=Nat.div_add_mod y (2^p)
    have hx1:=Nat.div_add_mod x (2^p)
    generalize y/2^p=y1 at *
    generalize hy0:y%2^p=y0 at *
    generalize hxq:x/2^p=x1 at *
    generalize hx0:x%2^p=x0 at *
    have hx0l:x0<2^p:=by rw[←hx0];exact Nat.mod_lt _ hpp
    have hy0l:y0<2^p:=by rw[←hy0];exact Nat.mod_lt _ hpp
    have hx1l:x1<2^(32-p):=by
      refine Nat.lt_of_mul_lt_mul_left (a:=2^p) ?_
      omega
    have e:x+y*4294967296=2^p*(x1+2^(32-p)*(2^p*y1+y0))+x0:=by
      rw[←hx1,←hy1,Nat.mul_add,←Nat.mul_assoc (2^p) (2^(32-p)),h0]
      generalize 2^p*y1+y0=Y
      omega
    rw[e,Nat.mul_add_div hpp,Nat.div_eq_of_lt hx0l,Nat.add_zero]
    have e2:x1+2^(32-p)*(2^p*y1+y0)=(x1+2^(32-p)*y0)+4294967296*y1:=by
      rw[Nat.mul_add,←Nat.mul_assoc,Nat.mul_comm (2^(32-p)) (2^p),h0];omega
    have h3:2^(32-p)*y0+2^(32-p)≤4294967296:=by
      have:2^(32-p)*(y0+1)≤2^(32-p)*2^p:=Nat.mul_le_mul_left _ hy0l
      rw[Nat.mul_comm (2^(32-p)) (2^p),h0,Nat.mul_add] at this
      omega
    rw[e2,Nat.add_mul_mod_self_left,Nat.mod_eq_of_lt oM,Nat.mul_add,←Nat.mul_assoc,h0]
    omega
theorem dn_app {b:Nat}{l X:List Nat}{j P d r0:Nat}(hl:l.length=j)(inv:P*bval b l+r0=bval b (X.take j)+b^j*(X.getD j 0%P))(hd:P*d+X.getD j 0%P=X.getD j 0+b*(X.getD (j+1) 0%P)) :
    P*bval b (l++[d])+r0=bval b (X.take (j+1))+b^(j+1)*(X.getD (j+1) 0%P):=by
  have e1:bval b (l++[d])=bval b l+b^j*d:=by
    rw[bval_append,hl];show _+b^j*(d+b*0)=_;rw[Nat.mul_zero,Nat.add_zero]
  have e4:=congrArg (b^j * ·) hd
  simp only[Nat.mul_add] at e4
  rw[e1,bval_take_next,Nat.pow_succ,Nat.mul_add]
  have e5:P*(b^j*d)=b^j*(P*d):=by ac_rfl
  have e6:b^j*b*(X.getD (j+1) 0%P)=b^j*(b*(X.getD (j+1) 0%P)):=by ac_rfl
  rw[e5,e6]
  omega
theorem dn_fin {a k:Nat}{l:List Nat}(hl:(lim a).length≤k/32+l.length)(inv:2^(k%32)*bval 4294967296 l+((lim a).drop (k/32)).getD 0 0%2^(k%32)=bval 4294967296 (((lim a).drop (k/32)).take l.length)+4294967296^l.length*(((lim a).drop (k/32)).getD l.length 0%2^(k%32))):bval 4294967296 l=a/2^k:=by
  have hx:((lim a).drop (k/32)).length≤l.length:=by rw[List.length_drop];omega
  rw[List.take_of_length_le hx,getD_out hx,Nat.zero_mod,Nat.mul_zero,Nat.add_zero] at inv
  have hX:bval 4294967296 ((lim a).drop (k/32))=a/4294967296^(k/32):=by
    rcases Nat.lt_or_ge (lim a).length (k/32) with h|h
    · rw[List.drop_eq_nil_of_le oM,Nat.div_eq_of_lt]
      · rfl
      · exact Nat.lt_of_lt_of_le (lim_lt_pow a) (Nat.pow_le_pow_right kD oM)
    · have e:=bval_split 4294967296 (l:=lim a) (k:=k/32) h
      rw[bval_lim] at e
      have h1:=bval_lt (Dg.take (Ld.lim a) (k/32))
      rw[List.length_take,Nat.min_eq_left h] at h1
      have h2:a/4294967296^(k/32)=(bval 4294967296 ((lim a).take (k/32))+4294967296^(k/32)*bval 4294967296 ((lim a).drop (k/32)))/4294967296^(k/32):=by rw[←e]
      rw[h2,Nat.add_mul_div_left _ _ (Nat.pow_pos kD),Nat.div_eq_of_lt h1,Nat.zero_add]
  rw[pow32 k,←Nat.div_div_eq_div_mul,←hX,←inv,Nat.mul_add_div (Nat.two_pow_pos _),Nat.div_eq_of_lt (Nat.mod_lt _ (Nat.two_pow_pos _)),Nat.add_zero]
section bld
variable {P:Program} {n:Nat} {N R:Po} {X:Nat→Po} {ops:Array Oper} {k:Nat} {Γ:Env} {w0:World} {h0:Hp} {B:List Bx} {Rs:List Rw} {F:List (Hp→Prop)} {wB:World} {hB:Hp}
theorem SS.liftJ (s:SS w0 h0 wB hB B Rs F){w:World}(x:Ext wB w):∃ h',SS w0 h0 w h' B Rs F∧∀ b,wB.heap.size≤b→b<w.heap.size→h'[b]?=some junk:=by
  have hs:=x.size
  have e0:=s.g.size
  refine ⟨hB++Array.replicate (w.heap.size-wB.heap.size) junk,s.step ⟨x,⟨by simp,fun b hb=>Array.getElem?_append_left hb⟩,⟨by simp;omega,fun b=>?_⟩⟩,fun b h1 h2=>?_⟩
  · rcases Nat.lt_or_ge b hB.size with hb|hb
    · rw[Array.getElem?_append_left hb]
      have e:=Below.block x b oM
      rcases s.g.blk b with h1|h1
      · exact .inl (h1.trans e.symm)
      · exact .inr h1
    · rw[Array.getElem?_append_right hb,Array.getElem?_replicate]
      by_cases hl:b<w.heap.size
      · right;rw[if_pos oM]
      · left;rw[if_neg oM,Array.getElem?_eq_none oM]
  · rw[Array.getElem?_append_right oM,Array.getElem?_replicate,if_pos oM]
theorem lBd (t:Nat)(ty:TypeId)(vs:List Value){w:World}{h:Hp}(s:SS w0 h0 w h B Rs F)(H:∀ w',Ext w w'→w.heap.size≤w'.heap.size→w'.heap[w.heap.size]?=some (.cells vs.toArray ty (0,0))→LG P n N R X ops (k+1) ((t,.pointer (some ⟨w.heap.size,0,none⟩))::Γ) w')(hc:cL ops Γ k t n=true:=by kernel_rfl)
    (hr:(execOp (ev Γ) (opAt ops k)).run P w=.ok (.value (.pointer (some ⟨w.heap.size,0,none⟩))) (w.alloc (.cells vs.toArray ty (0,0))):=by kernel_rfl):LG P n N R X ops k Γ w :=
  LG.val t _ (w.alloc (.cells vs.toArray ty (0,0))) (cL_1 hc).1 (cL_1 hc).2 hr (H _ ((Ext.refl _).alloc _) (by rw[heap_alloc];simp) (by rw[heap_alloc];simp))
theorem lBc (t:Nat){f:FuncId}{args:Array Value}{V:Value}{Q:World→Prop}{w:World}(s:SS w0 h0 wB hB B Rs F)(x:Ext wB w)(c:Calls P f args w fun e w'=>e=.returned V∧(Q w'∧Below wB.heap.size w w'))(H:∀ w' h',SS w0 h0 w' h' B Rs F→Ext wB w'→Q w'→LG P n N R X ops (k+1) ((t,V)::Γ) w')(hc:cL ops Γ k t n=true:=by kernel_rfl)
    (hr:(execOp (ev Γ) (opAt ops k)).run P w=.ok (.enter f args) w:=by kernel_rfl):LG P n N R X ops k Γ w :=
  LG.call t f args (cL_1 hc).1 (cL_1 hc).2 hr (c.mono fun e w' ⟨he,q,b⟩=>by
    have x':Ext wB w':=Below.trans x b
    obtain ⟨h',s',_⟩:=s.liftJ x'
    exact ⟨V,he,H w' h' s' x' q⟩)
def betw (a b:Nat):List Nat:=(List.range b).filter (fun c=>decide (a≤c))
theorem mem_betw {a b c:Nat}:c∈betw a b↔a≤c∧c<b:=by
  unfold betw;rw[List.mem_filter,List.mem_range];simp;omega
theorem A.takeK {M:Ms}{Q:Exit→Act→World→Prop}{k0:Nat}{L:Array Bool}{a:Act}{w:World}{i:Nat}{o:Oper}{v:Value}{S:World→Prop}
    (hi:ops[i]?=some o)(hk:i<k0)(hsel:Region.noSelect ops=true)(hf:Region.free .any ops L i=true)(hr:i∈Region.ready .any ops L)(hQ:∀ c a w,¬Q (.panic c) a w)
    (hcl:∀ w w',S w→Mo M.l w w'→S w')(hS:S w)(hy:YieldsIf P ops S o v a)
    (htail:(∀ w,S w)∨(∀ w w',S w→Tl M w w'→S w')∨∀ j oj,ops[j]?=some oj→k0≤j→j≠i→∃ e∈oj.after,Region.binds .any e=true∧e.on=i)
    (H:A M P ops Q k0 (L.setIfInBounds i true) (a.put o.dst v) w):A M P ops Q k0 L a w:=by
  unfold A at *
  rw[rem_ready hr]
  exact anyR_first hi (Region.noSelect_spec hsel) (fun c a w hq=>absurd hq (hQ _ _ _)) hcl _ _ _ _
    (fun j oj hj hji hun=>Region.free_spec hi hf j oj hj hji hun) htail hr hy hS H hk
variable {M:Ms} {k0:Nat} {L:Array Bool} {w:World}
theorem aV (i t:Nat)(v:Value)(H:AG M P n N R X ops k0 (L.setIfInBounds i true) ((t,v)::Γ) w)(hc:cE n ops k0 [] L Γ i t=true:=by kernel_rfl)(hv:∀ w,(execOp (ev Γ) (opAt ops i)).run P w=.ok (.value v) w:=by intro _;kernel_rfl):AG M P n N R X ops k0 L Γ w:=by
  obtain ⟨hc1,hw⟩:=cE_1 hc
  rw[Bool.and_eq_true] at hc1
  have c:=chkTake_spec hc1.1
  intro a ka
  have e1:=ka.exec (Region.noSelect_spec c.sel i _ · · c.get) hc1.2
  refine A.takeK (v:=v) (S:=fun _=>True) c.get c.lt c.sel c.free c.ready (fun _ _ _ hq=>hq) (fun _ _ _ _=>trivial) trivial (.inl ⟨ka.want hw,fun w _=>by rw[e1];exact hv w⟩) (.inl fun _=>trivial) ?_
  rw[c.dst]
  exact H _ (ka.put c.tn v)
theorem aL (i t:Nat)(v:Value)(hr:∀ w',Mo M.l w w'→(execOp (ev Γ) (opAt ops i)).run P w'=.ok (.value v) w')(H:AG M P n N R X ops k0 (L.setIfInBounds i true) ((t,v)::Γ) w)(hc:cEl n ops k0 [] L Γ i t=true:=by kernel_rfl):AG M P n N R X ops k0 L Γ w:=by
  obtain ⟨hc1,hw⟩:=cEl_1 hc
  rw[Bool.and_eq_true,Bool.and_eq_true] at hc1
  obtain ⟨⟨hc2,hkn⟩,htl⟩:=hc1
  have c:=chkTake_spec hc2
  intro a ka
  have e1:=ka.exec (Region.noSelect_spec c.sel i _ · · c.get) hkn
  refine A.takeK (v:=v) (S:=fun w'=>Mo M.l w w') c.get c.lt c.sel c.free c.ready (fun _ _ _ hq=>hq) (fun _ _ h1 h2=>h1.trans h2) (Mo.refl _ _) (.inl ⟨ka.want hw,fun w' hx=>by rw[e1];exact hr w' hx⟩) (.inr (.inr (chkTail_spec htl))) ?_
  rw[c.dst]
  exact H _ (ka.put c.tn v)
theorem aH (i t:Nat)(v:Value){h:Hp}{b o:Nat}{cs:List Value}(s:SS w0 h0 w h B Rs F)(sg:Seg h b o cs)(H:AG M P n N R X ops k0 (L.setIfInBounds i true) ((t,v)::Γ) w)(hM:∀ b∈M.l,h[b]?=some junk)(hc:cEl n ops k0 [] L Γ i t=true:=by kernel_rfl)(he:evalL P (execOp (ev Γ) (opAt ops i)) cs=some (.value v,mka b o cs.length):=by kernel_rfl):AG M P n N R X ops k0 L Γ w :=
  aL i t v (fun _ hx=>Seg.runM sg s.g hM hx he) H hc
def chkK (ops:Array Oper)(k0:Nat)(L:Array Bool)(i:Nat):Bool:=decide (i<ops.size) && decide (i<k0) && Region.noSelect ops && (Region.ready .any ops L == [i])
theorem aC (i t:Nat){f:FuncId}{args:Array Value}(c:Calls P f args w fun e w'=>∃ v,e=.returned v∧Mo M.l w w'∧AG M P n N R X ops k0 (L.setIfInBounds i true) ((t,v)::Γ) w')(hc:(chkK ops k0 L i && knownOp Γ (opAt ops i) && ((opAt ops i).dst == some t) && decide (t<n))=true:=by kernel_rfl)(hw:wantE ops Γ (opAt ops i)=some true:=by kernel_rfl)
    (hr:(execOp (ev Γ) (opAt ops i)).run P w=.ok (.enter f args) w:=by kernel_rfl):AG M P n N R X ops k0 L Γ w:=by
  simp only[Bool.and_eq_true,decide_eq_true_eq,beq_iff_eq] at hc
  obtain ⟨⟨⟨h1,h2⟩,h3⟩,h4⟩:=hc
  unfold chkK at h1
  simp only[Bool.and_eq_true,decide_eq_true_eq,beq_iff_eq] at h1
  have hg:=opAt_get (ops:=ops) h1.1.1.1
  intro a ka
  refine A.intro (fun h0=>by rw[h1.2] at h0;cases h0) (fun j hj=>?_)
  rw[h1.2,List.mem_singleton] at hj
  subst hj
  refine OpR.wpOp (R:=fun v w'=>Mo M.l w w'∧AG M P n N R X ops k0 (L.setIfInBounds j true) ((t,v)::Γ) w') hg ⟨ka.want hw,.inr (.inr ⟨f,args,?_,c⟩)⟩ (fun v w' hq=>⟨Rl.mo h1.1.1.2 hq.1,?_⟩)
  · rw[ka.exec (Region.noSelect_spec h1.1.2 j _ · · hg) h2];exact hr
  · rw[h3];exact hq.2 _ (ka.put h4 v)
theorem cRa {id:Nat}(M:Ms)(k0:Nat)(hm:P.follows .mixedOrders=true)(H:AG M P n N R X ops k0 (Array.replicate ops.size false) Γ w.drew):CG P n N R X (.region id ops true) Γ w:=by
  intro a ka
  refine wp_region_any hm ?_
  have h1:=H a ka
  unfold A at h1
  rw[rem_replicate] at h1
  exact anyR_any _ _ _ _ _ _ _ _ _ h1
theorem SS.drew {h:Hp}(s:SS w0 h0 w h B Rs F):SS w0 h0 w.drew h B Rs F:=s.step (Up.drew (Up.refl s.g))
theorem mo_below {K:Nat}{w w':World}(x:Below K w w'):Mo (betw K w.heap.size) w w':=⟨x.os,x.tape,x.output,x.size,fun c hc hn=>by
  rcases Nat.lt_or_ge c K with h|h
  · exact Below.block x c h
  · exact absurd (mem_betw.2 ⟨h,hc⟩) hn⟩
theorem Below_kept {K:Nat}{T e:TypeId}{b:Nat}{bs:List Value}{w w1:World}(h:Lib.IsBuilder T e K b bs w)(x:Ext w w1):Lib.IsBuilder T e K b bs w1:=by
  have key:∀ p,Lib.BuilderAt T e K b p bs w→Lib.BuilderAt T e K b p bs w1:=by
    rintro p ⟨h1,v,h2,h3,h4⟩
    have hlt:b<w.heap.size:=by
      rcases Nat.lt_or_ge b w.heap.size with h'|h'
      · exact h'
      · rw[Array.getElem?_eq_none h'] at h2;cases h2
    exact ⟨h1,v,(Below.block x b hlt).trans h2,own_block h3 (fun c hc=>Below.block x c (own_lt h3 hc)),h4⟩
  rcases h with h|h
  · exact .inl (key _ h)
  · exact .inr (key _ h)
theorem aX (i t:Nat)(A:Option Addr)(len cap sz:Nat)(x:Int)(j:Nat)(hA:A=some ⟨aB A,aO A,none⟩)(H:AG M P n N R X ops k0 (L.setIfInBounds i true) ((t,.pointer (some ⟨aB A,aO A+j*sz,none⟩))::Γ) w)(hc:cE n ops k0 [] L Γ i t=true:=by kernel_rfl)(he:ixE P (ev Γ) (opAt ops i)=some (.slice A len cap,.int .i64 x,sz):=by kernel_rfl)(hk:x=j:=by omega)(hlt:j<len:=by omega):AG M P n N R X ops k0 L Γ w :=
  aV i t _ H hc (fun w=>ixE_run he hA hk hlt w)
theorem bytes_step {P:List UInt8}{x m:Nat}(hm:m<8):Lib.byteCells (P++(b8 x).take m)++[.int .u8 ((x/2^(8*m)%256:Nat):Int)]=Lib.byteCells (P++(b8 x).take (m+1)):=by
  have e:(b8 x).take (m+1)=(b8 x).take m++[UInt8.ofNat (x/256^m)]:=by
    rw[List.take_add_one]
    congr 1
    unfold b8
    rw[List.getElem?_map,List.getElem?_range hm];rfl
  rw[e,←List.append_assoc]
  unfold Lib.byteCells
  rw[List.map_append (l₁:=P++_)]
  congr 1
  show _=[Value.int .u8 ((x/256^m%256:Nat):Int)]
  rw[Nat.pow_mul]
theorem bytes_row {l:List Nat}{k:Nat}(hk:k<l.length):((l.take k).flatMap b8)++(b8 (l.getD k 0)).take 8=(l.take (k+1)).flatMap b8:=by
  have e:(b8 (l.getD k 0)).take 8=b8 (l.getD k 0):=List.take_of_length_le (by rw[b8_len];omega)
  rw[take_succ_getD hk,List.flatMap_append,e];simp
theorem bytes_len {l:List Nat}{k m x:Nat}(hk:k≤l.length)(hm:m≤8)(hl:l.length≤1099511627776):(Lib.byteCells ((l.take k).flatMap b8++(b8 x).take m)).length+1≤140737488355328:=by
  rw[Lib.byteCells_length,List.length_append,flat_len8,List.length_take,List.length_take,b8_len];omega
theorem nv_zero {l:List Nat}(h:tl l l.length=0):Value.agg #[.int .u64 0,.string ⟨#[]⟩]=nv (wval l):=by
  have e:=bval_tl 18446744073709551616 l l.length (Nat.le_refl _)
  rw[h,List.take_length] at e
  have:wval l=0:=e.symm
  rw[this];rfl
theorem nv_one {l:List Nat}(hd:Wd l)(h:tl l l.length=1):Value.agg #[.int .u64 (l.getD 0 0:Nat),.string ⟨#[]⟩]=nv (wval l):=by
  have e:=bval_tl 18446744073709551616 l l.length (Nat.le_refl _)
  have hle:=tl_le l l.length
  rw[h,List.take_length,bval_take_next] at e
  have e2:wval l=l.getD 0 0:=by show bval _ l=_;rw[←e];simp[bval]
  rw[e2]
  have:=hd.get 0
  unfold nv
  rw[lo_small this,hi_small this]
theorem nv_many {l:List Nat}(hd:Wd l)(h:0<tl l l.length):Value.agg #[.int .u64 (l.getD 0 0:Nat),.string ⟨(((l.drop 1).take (tl l l.length-1)).flatMap b8).toArray⟩]=nv (wval l):=by
  have e:=wds_of hd
  have e1:((l.drop 1).take (tl l l.length-1))=(wds (wval l)).drop 1:=by rw[e,List.drop_take]
  unfold nv
  rw[hi_of (n:=wval l) (by rw[e1]),lo_wds,e,getD_take' h]
end bld
section
variable {P:Program} {Γ:Env} {o:Oper}
theorem opExt {f:FuncId}{args:Array Value}{v:Value}{w:World}(h:(execOp (ev Γ) o).run P w=(callFunc f args).run P w)(k:(callFunc f args).run P w=.ok (.value v) w):(execOp (ev Γ) o).run P w=.ok (.value v) w:=h.trans k
end
theorem bAdd64 (x y c:Nat)(hx:x<18446744073709551616)(hy:y<18446744073709551616)(hc:c≤1):∃ s c':Nat,s+18446744073709551616*c'=x+y+c∧s<18446744073709551616∧c'≤1∧∀ w,(callFunc 126 #[.int .u64 x,.int .u64 y,.int .u64 c]).run Tryz.prog w=.ok (.value (.tuple #[.int .u64 s,.int .u64 c'])) w:=by
  refine ⟨(x+y+c)%18446744073709551616,(x+y+c)/18446744073709551616,by omega,by omega,by omega,fun w=>?_⟩
  rw[run_callFunc_extern Tryz.func126 kR kR kR (e:=add64Entry) kR,run_add64 x y c oM oM oM oM]
  simp only[Result.andThen]
  congr 5<;>omega
theorem bSub64 (x y b:Nat)(hx:x<18446744073709551616)(hy:y<18446744073709551616)(hb:b≤1):∃ s b':Nat,s+y+b=x+18446744073709551616*b'∧s<18446744073709551616∧b'≤1∧∀ w,(callFunc 127 #[.int .u64 x,.int .u64 y,.int .u64 b]).run Tryz.prog w=.ok (.value (.tuple #[.int .u64 s,.int .u64 b'])) w:=by
  refine ⟨(x+18446744073709551616-y-b)%18446744073709551616,if x<y+b then 1 else 0,by split<;>omega,by omega,by split<;>omega,fun w=>?_⟩
  rw[run_callFunc_extern Tryz.func127 kR kR kR (e:=sub64Entry) kR,run_sub64 x y b hb]
  rfl
theorem Ret.of_same {f:FuncId}{args:Array Value}{V:Value}{P:Program}{w:World}{h:Hp}(g:G w h)(c:Calls P f args w fun e w'=>e=.returned V∧w'=w):Calls P f args w (Ret w h fun v _=>v=V) :=
  c.mono fun e w' ⟨he,hw⟩=>by subst hw;exact ⟨V,h,he,Up.refl g,rfl⟩
theorem bMul64 (x y:Nat)(hx:x<18446744073709551616)(hy:y<18446744073709551616)(w:World)(h:Hp)(g:G w h):Calls Tryz.prog 107 #[.int .u64 x,.int .u64 y] w (Ret w h fun v _=>∃ hi lo:Nat,v=.tuple #[.int .u64 hi,.int .u64 lo]∧lo+18446744073709551616*hi=x*y∧lo<18446744073709551616∧hi<18446744073709551616∧hi≤18446744073709551614):=by
  refine (Ret.of_same g (Tryz.bits_Mul64 x y hx hy w)).mono ?_
  rintro e w' ⟨v,h',he,u,rfl⟩
  have h1:x*y≤18446744073709551615*18446744073709551615:=Nat.mul_le_mul oM oM
  exact ⟨_,h',he,u,x*y/18446744073709551616,x*y%18446744073709551616,rfl,by omega,by omega,by omega,by omega⟩
theorem bitLen_nb {n:Nat}(h:n<18446744073709551616):Lib.bitLen n=nb n:=by
  rcases Nat.eq_zero_or_pos n with h0|h0
  · subst h0;rfl
  · obtain ⟨s1,s2,s3⟩:=nb_spec h0
    have hle:nb n≤64:=nb_le (k:=64) h
    have:=Lib.bitLen_shift (nb n-1) n s1 h
    have h1:n/2^(nb n-1)=1:=by
      have:n<2^(nb n-1)*2:=by rw[←Nat.pow_succ];rwa [show (nb n-1).succ=nb n by omega]
      refine Nat.div_eq_of_lt_le oM oM
    rw[h1] at this
    have e1:Lib.bitLen 1=1:=by decide
    omega
theorem bLen64 (x:Nat)(hx:x<18446744073709551616)(w:World)(h:Hp)(g:G w h):Calls Tryz.prog 124 #[.int .u64 x] w (Ret w h fun v _=>v=.int .i64 (nb x:Nat)):=by
  have:=Ret.of_same g (Tryz.bits_Len64 x w oM oM)
  rw[Int.toNat_natCast,bitLen_nb hx] at this
  exact this
theorem bLz64 (x:Nat)(hx:x<18446744073709551616)(w:World)(h:Hp)(g:G w h):Calls Tryz.prog 151 #[.int .u64 x] w (Ret w h fun v _=>v=.int .i64 (64-nb x:Nat)):=by
  have:=Ret.of_same g (Tryz.bits_LeadingZeros64 x w oM oM)
  have hle:nb x≤64:=nb_le (k:=64) hx
  rw[Int.toNat_natCast,bitLen_nb hx,show (64:Int)-(nb x:Nat)=((64-nb x:Nat):Int) by omega] at this
  exact this
theorem mul64_le {a b:Nat}(ha:a<18446744073709551616)(hb:b<18446744073709551616):a*b≤340282366920938463426481119284349108225:=by
  have h1:a≤18446744073709551615:=by omega
  have h2:b≤18446744073709551615:=by omega
  exact Nat.mul_le_mul h1 h2
theorem rTrim (A:Option Addr)(c:Nat)(l:List Nat)(m:Nat)(hm:l.length=m)(hl:l.length≤1099511627776)(hc:l.length≤c)(w:World)(h:Hp)(g:G w h)(hA:SlO 1 u32c 0 h A l) :
    Calls Tryz.prog 112 #[.slice A m c] w (Ret w h fun v _=>v=.slice A (tl l m) c):=by
 have hs:=SS.start g
 replace hs:=(hs.a_SlO hA)
 refine go Tryz.func112 [(0,.slice A m c)] rfl ?_
 refine cSL (lL hs [.v 2 (.slice none 0 0)] (lNS (lL hs [.m 4 0,.v 5 (.int .i64 (m:Nat)),.m 3 5] (lN (CG.seq (CG.block (cTo [(0,.slice A m c),(2,.slice none 0 0),(3,.int .i64 (m:Nat))] ?_)))))))
 refine CG.loop (fun μ_ Γ w_=>∃ (n:Nat) (h_:Hp),μ_=n∧Γ=[(0,.slice A m c),(2,.slice none 0 0),(3,.int .i64 (n:Nat))]∧SS w h w_ h_ [] [] [fun h_=>SlO 1 u32c 0 h_ A l]∧(n≤m)∧(tl l m=tl l n)) _ ⟨m,h,rfl,rfl,hs.to _ _,Nat.le_refl _,rfl⟩ ?_
 rintro _ _ w1 ⟨n,h2,hm3,rfl,hs,hn,ht⟩
 refine CG.seq (cSL (lL hs [.m 6 3] ?_))
 cases hb4:(decide ((0:Int)<((n:Nat):Int)))
 ·
  have phb4:=oF hb4
  refine lB 7 hb4 ?_
  refine lL hs [.m 8 7] (lG 9 ?_)
  refine lG 10 ?_
  refine lG 11 ?_
  refine lG 12 ?_
  refine lG 13 ?_
  refine lG 14 ?_
  refine lL hs [.v 15 (.bool false)] (lN (cIF (CG.exit ?_)))
  show CG _ _ _ _ _ _ _ _
  refine cSL (lL hs [.m 18 0,.m 19 3] (lT 20 A m c 1 (n:Nat) n ?_))
  exact lL hs [.m 2 20] (lN (CG.ret (hs.ret [] (.slice A n c) (by rw[ht,tl_at oM]))))
 have phb4:=oT hb4
 refine lB 7 hb4 ?_
 refine lL hs [.m 8 7,.m 9 0,.m 10 3] (lIn 11 ((n:Nat)-1) (n-1) ?_)
 refine lX 12 A m c 1 (n-1:Nat) (n-1) ((hs.f.1).ok oM) ?_
 refine lH 13 (.int .u32 (l.getD (n-1) 0:Nat)) hs ((hs.f.1).el (n-1) oM) ?_
 cases hb5:(((l.getD (n-1) 0:Nat):Int) == (0:Int))
 ·
  have phb5:=neOfBeq hb5
  refine lB 14 hb5 ?_
  refine lL hs [.v 15 (.bool false)] (lN (cIF (CG.exit ?_)))
  show CG _ _ _ _ _ _ _ _
  refine cSL (lL hs [.m 18 0,.m 19 3] (lT 20 A m c 1 (n:Nat) n ?_))
  exact lL hs [.m 2 20] (lN (CG.ret (hs.ret [] (.slice A n c) (by rw[ht,tl_at oM]))))
 have phb5:=eq_of_beq hb5
 refine lB 14 hb5 ?_
 refine lL hs [.v 15 (.bool true)] (lN (cIT (CG.skipN (CG.block (CG.listed (lL hs [.m 16 3] (lIn 17 ((n:Nat)-1) (n-1) ?_)))))))
 refine lL hs [.m 3 17] (lD ?_)
 intro a_ ka
 have q6:(n-1)≤m:=by omega
 have q7:tl l m=tl l (n-1):=by rw[ht];exact tl_dec2 oM oM
 refine ⟨_,_,?_,⟨n-1,h2,rfl,rfl,hs.to _ _,q6,q7⟩,ka.to [(0,.slice A m c),(2,.slice none 0 0),(3,.int .i64 ((n-1):Nat))] kR⟩
 omega
theorem natOf_fin {h:Hp}{A:Option Addr}{n cap:Nat}(hn:n<18446744073709551616)(hc:2≤cap)(s:SlO 1 u32c 0 h A [n%4294967296,n/4294967296]):RN h (.slice A (tl [n%4294967296,n/4294967296] 2) cap) n :=
  RN.trim (Dg.cons oM (Dg.one oM)) (by simp only[bval];omega) rfl hc s
theorem rNatOf (n:Nat)(hn:n<18446744073709551616)(w:World)(h:Hp)(g:G w h) :
    Calls Tryz.prog 76 #[.int .u64 (n:Nat)] w (Ret w h fun v h=>RN h v n):=by
 have hs:=SS.start g
 refine go Tryz.func76 [(0,.int .u64 (n:Nat))] rfl ?_
 refine cSL (lL hs [.v 2 (.slice none 0 0)] (lNS (lL hs [.m 3 0] (lV 4 (.int .u32 (n%4294967296:Nat)) ?_ (hr:=rint (n:=IntKind.wrap .u32 ((n:Nat):Int)) kR (wrU32 _))))))
 refine lL hs [.m 5 0] (lV 6 (.int .u64 (n/4294967296:Nat)) ?_ (hr:=rint (n:=Int.fdiv ((n:Nat):Int) 4294967296) kR (fdivNat _ 4294967296)))
 refine lV 7 (.int .u32 (n/4294967296:Nat)) ?_ (hr:=rint (n:=IntKind.wrap .u32 ((n/4294967296:Nat):Int)) kR (fitU32 oM oM))
 refine lR 8 159 2 ([.int .u32 (n%4294967296:Nat),.int .u32 (n/4294967296:Nat)]) hs (fun b1 w2 h3 hs=>?_)
 replace hs:=hs.a_SlO (SlO.of_flat (sz:=1) (f:=u32c) (d:=0) (l:=[(n%4294967296),(n/4294967296)]) (fun _=>rfl) (hs.f.1))
 refine lC 9 hs (rTrim (some ⟨b1,0,none⟩) 2 ([(n%4294967296),(n/4294967296)]) 2 (by first|rfl|omega|assumption) (by simp) (by simp) _ _ hs.g (hs.f.1)) ?_
 rintro _ w6 h7 hs rfl
 exact lL hs [.m 2 9] (lN (CG.ret (hs.ret [] (.slice (some ⟨b1,0,none⟩) (tl ([(n%4294967296),(n/4294967296)]) 2) 2) (natOf_fin hn oM (hs.f.1)))))
theorem rI_f (n:Nat)(A:Option Addr)(cap:Nat)(hc:(lim n).length≤cap)(w:World)(h:Hp)(g:G w h)(hA:SlO 1 u32c 0 h A (lim n)) :
    Calls Tryz.prog 111 #[.bool false,.slice A ((lim n).length) cap] w (Ret w h fun v h=>RI h v (sgn false n)):=by
 have hs:=SS.start g
 replace hs:=(hs.a_SlO hA)
 refine go Tryz.func111 [(0,.bool false),(1,.slice A ((lim n).length) cap)] rfl ?_
 refine cSL (lA 4 72 ([.bool false,.slice none 0 0]) hs (fun b1 w2 h3 hs=>?_))
 refine lNS (lL hs [.m 5 0,.m 6 5] (lG 7 ?_))
 refine lG 8 ?_
 refine lG 9 ?_
 refine lL hs [.v 10 (.bool false),.m 11 1,.v 12 (.agg #[.bool false,.slice A ((lim n).length) cap])] (lP 0 0 ([.bool false,.slice A ((lim n).length) cap]) hs (fun w4 hs=>?_))
 exact lN (CG.ret (hs.ret [(0,0,2)] (.agg #[.bool false,.slice A ((lim n).length) cap]) (ri_fin rfl hc (hs.f.1))))
theorem rI_t (n:Nat)(A:Option Addr)(cap:Nat)(hc:(lim n).length≤cap)(w:World)(h:Hp)(g:G w h)(hA:SlO 1 u32c 0 h A (lim n)) :
    Calls Tryz.prog 111 #[.bool true,.slice A ((lim n).length) cap] w (Ret w h fun v h=>RI h v (sgn true n)):=by
 have hs:=SS.start g
 replace hs:=(hs.a_SlO hA)
 have hp:=@lim_pos n
 refine go Tryz.func111 [(0,.bool true),(1,.slice A ((lim n).length) cap)] rfl ?_
 refine cSL (lA 4 72 ([.bool false,.slice none 0 0]) hs (fun b1 w2 h3 hs=>?_))
 refine lNS (lL hs [.m 5 0,.m 6 5,.m 7 1,.v 8 (.int .i64 ((lim n).length:Nat))] ?_)
 cases hb4:(decide ((0:Int)<(((lim n).length:Nat):Int)))
 ·
  have phb4:=oF hb4
  refine lB 9 hb4 ?_
  refine lL hs [.v 10 (.bool false),.m 11 1,.v 12 (.agg #[.bool false,.slice A ((lim n).length) cap])] (lP 0 0 ([.bool false,.slice A ((lim n).length) cap]) hs (fun w5 hs=>?_))
  exact lN (CG.ret (hs.ret [(0,0,2)] (.agg #[.bool false,.slice A ((lim n).length) cap]) (ri_fin (by simp only[Bool.true_and];first|(symm;exact decide_eq_true oM)|(symm;exact decide_eq_false oM)) hc (hs.f.1))))
 have phb4:=oT hb4
 refine lB 9 hb4 ?_
 refine lL hs [.v 10 (.bool true),.m 11 1,.v 12 (.agg #[.bool true,.slice A ((lim n).length) cap])] (lP 0 0 ([.bool true,.slice A ((lim n).length) cap]) hs (fun w6 hs=>?_))
 exact lN (CG.ret (hs.ret [(0,0,2)] (.agg #[.bool true,.slice A ((lim n).length) cap]) (ri_fin (by simp only[Bool.true_and];first|(symm;exact decide_eq_true oM)|(symm;exact decide_eq_false oM)) hc (hs.f.1))))
theorem rI (p:Bool)(n:Nat)(A:Option Addr)(cap:Nat)(hc:(lim n).length≤cap)(w:World)(h:Hp)(g:G w h)(hA:SlO 1 u32c 0 h A (lim n)) :
    Calls Tryz.prog 111 #[.bool p,.slice A (lim n).length cap] w (Ret w h fun v h=>RI h v (sgn p n)):=by
  cases p
  · exact rI_f n A cap hc w h g hA
  · exact rI_t n A cap hc w h g hA
theorem rIntOf_neg (z:Int)(h0:z<0)(h1 : -9223372036854775808≤z)(w:World)(h:Hp)(g:G w h) :
    Calls Tryz.prog 75 #[.int .i64 z] w (Ret w h fun v h=>RI h v (sgn true (iabs z))):=by
 have hs:=SS.start g
 have hi:iabs z≤9223372036854775808:=by unfold iabs;omega
 refine go Tryz.func75 [(0,.int .i64 z)] rfl ?_
 refine cSL (lA 2 72 ([.bool false,.slice none 0 0]) hs (fun b1 w2 h3 hs=>?_))
 refine lN (CG.seq (cSL (lL hs [.m 3 0] ?_)))
 have ⟨hb4,phb4⟩:=dT (p:=(z:Int)<(0:Int)) oM
 refine lB 4 hb4 ?_
 refine lN (cIT (cSL (lL hs [.m 5 0] (lV 6 (.int .u64 (18446744073709551616-iabs z:Nat)) ?_ (hr:=rint (n:=IntKind.wrap .u64 z) kR (by rw[IntKind.wrap_u64];unfold iabs;omega))))))
 refine lV 7 (.int .u64 (iabs z:Nat)) ?_ (hr:=rint (n:=IntKind.wrap .u64 (0-((18446744073709551616-iabs z:Nat):Int))) kR (by rw[IntKind.wrap_u64];omega))
 refine lC 8 hs (rNatOf (iabs z) oM _ _ hs.g) ?_
 rintro _ w9 h10 hs ⟨A5,c6,rfl,hc7,hA8⟩
 replace hs:=(hs.a_SlO hA8)
 refine lC 9 hs (rI true (iabs z) A5 c6 hc7 _ _ hs.g (hs.f.1)) ?_
 rintro _ w15 h16 hs ⟨A11,c12,rfl,hc13,hA14⟩
 replace hs:=(hs.a_SlO hA14)
 refine lP 0 0 ([.bool (ineg (sgn true (iabs z))),.slice A11 ((lim (iabs (sgn true (iabs z)))).length) c12]) hs (fun w17 hs=>?_)
 exact lN (CG.ret (hs.ret [(0,0,2)] (.agg #[.bool (ineg (sgn true (iabs z))),.slice A11 ((lim (iabs (sgn true (iabs z)))).length) c12]) (⟨_,_,rfl,hc13,(hs.f.1)⟩)))
theorem rIntOf_pos (z:Nat)(h1:z<9223372036854775808)(w:World)(h:Hp)(g:G w h) :
    Calls Tryz.prog 75 #[.int .i64 (z:Nat)] w (Ret w h fun v h=>RI h v (sgn false z)):=by
 have hs:=SS.start g
 refine go Tryz.func75 [(0,.int .i64 (z:Nat))] rfl ?_
 refine cSL (lA 2 72 ([.bool false,.slice none 0 0]) hs (fun b1 w2 h3 hs=>?_))
 refine lN (CG.seq (cSL (lL hs [.m 3 0] ?_)))
 have ⟨hb4,phb4⟩:=dF (p:=((z:Nat):Int)<(0:Int)) oM
 refine lB 4 hb4 ?_
 refine lN (cIF (CG.skipN (cSL (lL hs [.m 10 0] (lV 11 (.int .u64 (z:Nat)) ?_ (hr:=rint (n:=IntKind.wrap .u64 ((z:Nat):Int)) kR (fitU64 oM oM)))))))
 refine lC 12 hs (rNatOf z oM _ _ hs.g) ?_
 rintro _ w9 h10 hs ⟨A5,c6,rfl,hc7,hA8⟩
 replace hs:=(hs.a_SlO hA8)
 refine lC 13 hs (rI false z A5 c6 hc7 _ _ hs.g (hs.f.1)) ?_
 rintro _ w15 h16 hs ⟨A11,c12,rfl,hc13,hA14⟩
 replace hs:=(hs.a_SlO hA14)
 refine lP 0 0 ([.bool (ineg (sgn false z)),.slice A11 ((lim (iabs (sgn false z))).length) c12]) hs (fun w17 hs=>?_)
 exact lN (CG.ret (hs.ret [(0,0,2)] (.agg #[.bool (ineg (sgn false z)),.slice A11 ((lim (iabs (sgn false z))).length) c12]) (⟨_,_,rfl,hc13,(hs.f.1)⟩)))
theorem rIntOf (z:Int)(h0 : -9223372036854775808≤z)(h1:z<9223372036854775808)(w:World)(h:Hp)(g:G w h):Calls Tryz.prog 75 #[.int .i64 z] w (Ret w h fun v h=>RI h v z):=by
  rcases Int.lt_or_le z 0 with hz|hz
  · have e:sgn true (iabs z)=z:=by unfold sgn iabs;simp;omega
    have:=rIntOf_neg z hz h0 w h g
    rw[e] at this
    exact this
  · obtain ⟨n,rfl⟩:=Int.eq_ofNat_of_zero_le hz
    exact rIntOf_pos n oM w h g
theorem rNatCmp (a:Nat)(A:Option Addr)(c:Nat)(hc:(lim a).length≤c)(b:Nat)(D:Option Addr)(d:Nat)(hd:(lim b).length≤d)(hLa:(lim a).length≤4000000000)(hLb:(lim b).length≤4000000000)(w:World)(h:Hp)(g:G w h)(hA:SlO 1 u32c 0 h A (lim a))(hD:SlO 1 u32c 0 h D (lim b)) :
    Calls Tryz.prog 93 #[.slice A ((lim a).length) c,.slice D ((lim b).length) d] w (Ret w h fun v _=>v=.int .i64 (cmpN a b)):=by
 have hs:=SS.start g
 replace hs:=((hs.a_SlO hA).a_SlO hD)
 refine go Tryz.func93 [(0,.slice A ((lim a).length) c),(1,.slice D ((lim b).length) d)] rfl ?_
 refine cSL (lL hs [.v 4 (.int .i64 0)] (lN (CG.seq (cSL (lL hs [.m 6 0,.v 7 (.int .i64 ((lim a).length:Nat)),.m 8 1,.v 9 (.int .i64 ((lim b).length:Nat))] ?_)))))
 cases hb1:((((lim a).length:Nat):Int) != (((lim b).length:Nat):Int))
 ·
  have phb1:=eqOfBne hb1
  refine lB 10 hb1 ?_
  refine lN (cIF (CG.skipN (CG.seq (cSL (lL hs [.m 16 0,.v 17 (.int .i64 ((lim a).length:Nat))] (lV 18 (.int .i64 ((((lim a).length:Nat):Int)-1)) ?_ (hr:=rint (n:=IntKind.wrap .i64 (((lim a).length:Nat)-1)) kR ((wr64 oM oM).trans oM))))))))
  refine lL hs [.m 5 18] (lN (CG.block (cTo [(0,.slice A ((lim a).length) c),(1,.slice D ((lim b).length) d),(5,.int .i64 ((((lim a).length:Nat):Int)-1))] ?_)))
  refine CG.loop (fun μ_ Γ w_=>∃ (m:Nat) (h_:Hp),μ_=m∧Γ=[(0,.slice A ((lim a).length) c),(1,.slice D ((lim b).length) d),(5,.int .i64 (((m:Nat):Int)-1))]∧SS w h w_ h_ [] [] [fun h_=>SlO 1 u32c 0 h_ D (lim b),fun h_=>SlO 1 u32c 0 h_ A (lim a)]∧(m≤(lim a).length)∧((lim a).length=(lim b).length)∧((lim a).drop m=(lim b).drop m)) _ ⟨(lim a).length,h,rfl,rfl,hs.to _ _,Nat.le_refl _,oM,(by rw[List.drop_eq_nil_of_le oM,List.drop_eq_nil_of_le oM])⟩ ?_
  rintro _ _ w2 ⟨m,h3,hm4,rfl,hs,hm,hlen,hdr⟩
  refine CG.seq (cSL (lL hs [.m 19 5] ?_))
  cases hb5:(decide ((0:Int)≤(((m:Nat):Int)-1:Int)))
  ·
   have phb5:=oF hb5
   refine lB 20 hb5 ?_
   refine lN (cIF (CG.exit ?_))
   show CG _ _ _ _ _ _ _ _
   exact cSL (lL hs [.v 4 (.int .i64 0)] (lN (CG.ret (hs.ret [] (.int .i64 0) (by rw[cmpN_eq (lim_inj (by obtain rfl:m=0:=oM;simpa using hdr))])))))
  have phb5:=oT hb5
  refine lB 20 hb5 ?_
  refine lN (cIT (CG.skipN (CG.seq (CG.block (CG.seq (cR 9 [] mixed hs al_nil ?_))))))
  refine eV 0 23 (.slice A ((lim a).length) c) ?_
  refine eV 1 24 (.int .i64 (((m:Nat):Int)-1)) ?_
  refine eX 2 25 A ((lim a).length) c 1 (((m:Nat):Int)-1) (m-1) ((hs.f.2.1).ok oM) ?_
  refine eH 3 26 (.int .u32 ((lim a).getD (m-1) 0:Nat)) hs ((hs.f.2.1).el (m-1) oM) ?_
  refine eV 4 27 (.slice D ((lim b).length) d) ?_
  refine eV 5 28 (.int .i64 (((m:Nat):Int)-1)) ?_
  refine eX 6 29 D ((lim b).length) d 1 (((m:Nat):Int)-1) (m-1) ((hs.f.1).ok oM) ?_
  refine eH 7 30 (.int .u32 ((lim b).getD (m-1) 0:Nat)) hs ((hs.f.1).el (m-1) oM) ?_
  cases hb6:((((lim a).getD (m-1) 0:Nat):Int) != (((lim b).getD (m-1) 0:Nat):Int))
  ·
   have phb6:=eqOfBne hb6
   refine eB 8 31 hb6 ?_
   refine eD0 hs (fun w7 h8 hs=>?_)
   refine tN (cIF (CG.skipN (CG.listed (lL hs [.m 21 5] (lV 22 (.int .i64 (((m-1:Nat):Int)-1)) ?_ (hr:=rint (n:=IntKind.wrap .i64 ((((m:Nat):Int)-1)-1)) kR ((wr64 oM oM).trans oM)))))))
   refine lL hs [.m 5 22] (lD ?_)
   intro a_ ka
   have q9:(m-1)≤(lim a).length:=by omega
   have q10:(lim a).length=(lim b).length:=hlen
   have q11:(lim a).drop (m-1)=(lim b).drop (m-1):=(drop_eq_step (k:=m-1) hlen oM (by rw[show m-1+1=m by omega];exact hdr) oM)
   refine ⟨_,_,?_,⟨m-1,h8,rfl,rfl,hs.to _ _,q9,q10,q11⟩,ka.to [(0,.slice A ((lim a).length) c),(1,.slice D ((lim b).length) d),(5,.int .i64 ((((m-1):Nat):Int)-1))] kR⟩
   omega
  have phb6:=neOfBne hb6
  refine eB 8 31 hb6 ?_
  refine eD0 hs (fun w12 h13 hs=>?_)
  refine tN (cIT (CG.seq (CG.seq (cR 9 [] mixed hs al_nil ?_))))
  refine eV 0 32 (.slice A ((lim a).length) c) ?_
  refine eV 1 33 (.int .i64 (((m:Nat):Int)-1)) ?_
  refine eX 2 34 A ((lim a).length) c 1 (((m:Nat):Int)-1) (m-1) ((hs.f.2.1).ok oM) ?_
  refine eH 3 35 (.int .u32 ((lim a).getD (m-1) 0:Nat)) hs ((hs.f.2.1).el (m-1) oM) ?_
  refine eV 4 36 (.slice D ((lim b).length) d) ?_
  refine eV 5 37 (.int .i64 (((m:Nat):Int)-1)) ?_
  refine eX 6 38 D ((lim b).length) d 1 (((m:Nat):Int)-1) (m-1) ((hs.f.1).ok oM) ?_
  refine eH 7 39 (.int .u32 ((lim b).getD (m-1) 0:Nat)) hs ((hs.f.1).el (m-1) oM) ?_
  cases hb14:(decide ((((lim a).getD (m-1) 0:Nat):Int)<(((lim b).getD (m-1) 0:Nat):Int)))
  ·
   have phb14:=oF hb14
   refine eB 8 40 hb14 ?_
   refine eD0 hs (fun w15 h16 hs=>?_)
   exact tN (cIF (CG.skipN (cSL (lL hs [.v 4 (.int .i64 1)] (lN (CG.ret (hs.ret [] (.int .i64 1) (by rw[cmpN_gt (by first|exact lim_cmp_len oM|exact lim_cmp_at (k:=m-1) oM oM (by rw[show m-1+1=m by omega];exact hdr.symm) oM)]))))))))
  have phb14:=oT hb14
  refine eB 8 40 hb14 ?_
  refine eD0 hs (fun w17 h18 hs=>?_)
  exact tN (cIT (cSL (lL hs [.v 4 (.int .i64 (-1))] (lN (CG.ret (hs.ret [] (.int .i64 (-1)) (by rw[cmpN_lt (by first|exact lim_cmp_len oM|exact lim_cmp_at (k:=m-1) oM oM (by rw[show m-1+1=m by omega];exact hdr) oM)])))))))
 have phb1:=neOfBne hb1
 refine lB 10 hb1 ?_
 refine lN (cIT (CG.seq (cSL (lL hs [.m 11 0,.v 12 (.int .i64 ((lim a).length:Nat)),.m 13 1,.v 14 (.int .i64 ((lim b).length:Nat))] ?_))))
 cases hb19:(decide ((((lim a).length:Nat):Int)<(((lim b).length:Nat):Int)))
 ·
  have phb19:=oF hb19
  refine lB 15 hb19 ?_
  exact lN (cIF (CG.skipN (cSL (lL hs [.v 4 (.int .i64 1)] (lN (CG.ret (hs.ret [] (.int .i64 1) (by rw[cmpN_gt (by first|exact lim_cmp_len oM|exact lim_cmp_at (k:=m-1) oM oM (by rw[show m-1+1=m by omega];exact hdr.symm) oM)]))))))))
 have phb19:=oT hb19
 refine lB 15 hb19 ?_
 exact lN (cIT (cSL (lL hs [.v 4 (.int .i64 (-1))] (lN (CG.ret (hs.ret [] (.int .i64 (-1)) (by rw[cmpN_lt (by first|exact lim_cmp_len oM|exact lim_cmp_at (k:=m-1) oM oM (by rw[show m-1+1=m by omega];exact hdr) oM)])))))))
theorem rAt (A:Option Addr)(c:Nat)(l:List Nat)(m:Nat)(hm:l.length=m)(i:Nat)(hi:i≤1099511627776)(hd:Ld l)(w:World)(h:Hp)(g:G w h)(hA:SlO 1 u32c 0 h A l) :
    Calls Tryz.prog 159 #[.slice A m c,.int .i64 (i:Nat)] w (Ret w h fun v _=>v=.int .u64 (l.getD i 0:Nat)):=by
 have hs:=SS.start g
 replace hs:=(hs.a_SlO hA)
 have hdi:=hd.get i
 refine go Tryz.func159 [(0,.slice A m c),(1,.int .i64 (i:Nat))] rfl ?_
 refine cSL (lL hs [.v 4 (.int .u64 0)] (lN (CG.seq (cSL (lL hs [.m 5 1,.m 6 0,.v 7 (.int .i64 (m:Nat))] ?_)))))
 cases hb1:(decide (((i:Nat):Int)<((m:Nat):Int)))
 ·
  have phb1:=oF hb1
  refine lB 8 hb1 ?_
  exact lN (cIF (CG.skipN (cSL (lL hs [.v 4 (.int .u64 0)] (lN (CG.ret (hs.ret [] (.int .u64 0) (by rw[getD_out oM];rfl))))))))
 have phb1:=oT hb1
 refine lB 8 hb1 ?_
 refine lN (cIT (cSL (lL hs [.m 9 0,.m 10 1] (lX 11 A m c 1 (i:Nat) i ((hs.f.1).ok oM) ?_))))
 refine lH 12 (.int .u32 (l.getD i 0:Nat)) hs ((hs.f.1).el i oM) ?_
 refine lV 13 (.int .u64 (l.getD i 0:Nat)) ?_ (hr:=rint (n:=IntKind.wrap .u64 ((l.getD i 0:Nat):Int)) kR (fitU64 oM oM))
 exact lL hs [.m 4 13] (lN (CG.ret (hs.ret [] (.int .u64 (l.getD i 0:Nat)) rfl)))
theorem rNatAdd (a:Nat)(A:Option Addr)(c:Nat)(hc:(lim a).length≤c)(b:Nat)(D:Option Addr)(d:Nat)(hd:(lim b).length≤d)(hLa:(lim a).length≤4000000000)(hLb:(lim b).length≤4000000000)(w:World)(h:Hp)(g:G w h)(hA:SlO 1 u32c 0 h A (lim a))(hD:SlO 1 u32c 0 h D (lim b)) :
    Calls Tryz.prog 144 #[.slice A ((lim a).length) c,.slice D ((lim b).length) d] w (Ret w h fun v h1=>RN h1 v (a+b)):=by
 have hs:=SS.start g
 replace hs:=((hs.a_SlO hA).a_SlO hD)
 refine go Tryz.func144 [(0,.slice A ((lim a).length) c),(1,.slice D ((lim b).length) d)] rfl ?_
 refine cSL (lL hs [.v 4 (.slice none 0 0)] (lNS (lL hs [.m 9 0,.v 10 (.int .i64 ((lim a).length:Nat)),.m 11 1,.v 12 (.int .i64 ((lim b).length:Nat))] (lV 13 (.int .i64 ((max (lim a).length (lim b).length):Nat)) ?_ (hr:=rint (n:=if (((lim b).length:Nat):Int)>(((lim a).length:Nat):Int) then (((lim b).length:Nat):Int) else (((lim a).length:Nat):Int)) kR (by split<;>omega))))))
 refine lL hs [.m 5 13] (lNS (lL hs [.m 14 5] (lIn 15 (((max (lim a).length (lim b).length):Nat)+1) (((max (lim a).length (lim b).length):Nat)+1) ?_)))
 refine lK 16 159 (((max (lim a).length (lim b).length):Nat)+1:Nat) 1 4 (.int .u32 0) u32c 0 hs (fun b1 w2 h3 hs=>?_)
 have hl4:(List.replicate (((max (lim a).length (lim b).length):Nat)+1:Nat) 0).length=(((max (lim a).length (lim b).length):Nat)+1:Nat):=by simp
 refine lL hs [.m 6 16] (lNS (lL hs [.v 7 (.int .u64 0)] (lN (CG.seq (cSL (lL hs [.v 8 (.int .i64 0)] (lN (CG.block (cTo [(0,.slice A ((lim a).length) c),(1,.slice D ((lim b).length) d),(4,.slice none 0 0),(5,.int .i64 ((max (lim a).length (lim b).length):Nat)),(6,.slice (some ⟨b1,0,none⟩) (((max (lim a).length (lim b).length):Nat)+1:Nat) (((max (lim a).length (lim b).length):Nat)+1:Nat)),(8,.int .i64 0),(7,.int .u64 0)] ?_)))))))))
 refine CG.loop (fun μ_ Γ w_=>∃ (i:Nat) (z:List Nat) (cy:Nat) (h_:Hp),μ_=(max (lim a).length (lim b).length)+1-i∧Γ=[(0,.slice A ((lim a).length) c),(1,.slice D ((lim b).length) d),(4,.slice none 0 0),(5,.int .i64 ((max (lim a).length (lim b).length):Nat)),(6,.slice (some ⟨b1,0,none⟩) (((max (lim a).length (lim b).length):Nat)+1:Nat) (((max (lim a).length (lim b).length):Nat)+1:Nat)),(8,.int .i64 (i:Nat)),(7,.int .u64 (cy:Nat))]∧SS w h w_ h_ [⟨b1,159,(z).flatMap u32c⟩] [] [fun h_=>SlO 1 u32c 0 h_ D (lim b),fun h_=>SlO 1 u32c 0 h_ A (lim a)]∧(i≤(max (lim a).length (lim b).length)+1)∧(z.length=(max (lim a).length (lim b).length)+1)∧(Ld z)∧(cy≤1)∧(bval 4294967296 z+4294967296^i*cy=bval 4294967296 ((lim a).take i)+bval 4294967296 ((lim b).take i))∧(∀ k,i≤k→z.getD k 0=0)) _ ⟨0,List.replicate (((max (lim a).length (lim b).length):Nat)+1:Nat) 0,0,h3,rfl,rfl,hs.to _ _,Nat.zero_le _,hl4,Ld.rep _,oM,(by rw[bval_rep];simp[bval]),fun k _=>getD_rep⟩ ?_
 rintro _ _ w5 ⟨i,z,cy,h6,hm7,rfl,hs,hi,hll,hW,hcy,inv,hz⟩
 have hai:=(Ld.lim a).get i
 have hbi:=(Ld.lim b).get i
 refine CG.seq (cSL (lL hs [.m 17 8,.m 18 5] ?_))
 cases hb8:(decide (((i:Nat):Int)≤(((max (lim a).length (lim b).length):Nat):Int)))
 ·
  have phb8:=oF hb8
  refine lB 19 hb8 ?_
  refine lN (cIF (CG.exit ?_))
  show CG _ _ _ _ _ _ _ _
  refine cSL (lL hs [.m 38 6] ?_)
  have hin:i=(max (lim a).length (lim b).length)+1:=by omega
  rw[List.take_of_length_le (show (lim a).length≤i by omega),List.take_of_length_le (show (lim b).length≤i by omega),bval_lim,bval_lim,hin,←hll] at inv
  have hE:bval 4294967296 z=a+b:=put_end inv (by rw[hll];exact Nat.lt_of_lt_of_le (lim_lt_pow _) (Nat.pow_le_pow_right kD (lim_len_max oM oM)))
  obtain ⟨h9,hs,sg10,lo11,bc12⟩:=hs.pub 0
  replace hs:=(hs.to [] []).a_SlO (SlO.of_flat (sz:=1) (f:=u32c) (d:=0) (b:=b1) (o:=0) (l:=z) (fun _=>rfl) sg10)
  refine lC 39 hs (rTrim (some ⟨b1,0,none⟩) (((max (lim a).length (lim b).length):Nat)+1:Nat) z (((max (lim a).length (lim b).length):Nat)+1:Nat) hll oM oM _ _ hs.g (hs.f.1)) ?_
  rintro _ w14 h15 hs rfl
  exact lL hs [.m 4 39] (lN (CG.ret (hs.ret [] (.slice (some ⟨b1,0,none⟩) (tl z (((max (lim a).length (lim b).length):Nat)+1:Nat)) (((max (lim a).length (lim b).length):Nat)+1:Nat)) (RN.trim hW hE hll (Nat.le_refl _) (hs.f.1)))))
 have phb8:=oT hb8
 refine lB 19 hb8 ?_
 refine lN (cIT (CG.skipN (CG.seq (CG.block (cSL (lL hs [.m 22 7,.m 23 0,.m 24 8] (lC 25 hs (rAt A c (lim a) ((lim a).length) rfl i oM (Ld.lim _) _ _ hs.g (hs.f.2.1)) ?_)))))))
 rintro _ w16 h17 hs rfl
 refine lV 26 (.int .u64 (cy+((lim a).getD i 0):Nat)) ?_ (hr:=rint (n:=IntKind.wrap .u64 (((cy:Nat):Int)+(((lim a).getD i 0:Nat):Int))) kR (fAU64 cy ((lim a).getD i 0) oM))
 refine lL hs [.m 27 1,.m 28 8] (lC 29 hs (rAt D d (lim b) ((lim b).length) rfl i oM (Ld.lim _) _ _ hs.g (hs.f.1)) ?_)
 rintro _ w18 h19 hs rfl
 refine lV 30 (.int .u64 ((cy+((lim a).getD i 0):Nat)+((lim b).getD i 0):Nat)) ?_ (hr:=rint (n:=IntKind.wrap .u64 (((cy+((lim a).getD i 0):Nat):Int)+(((lim b).getD i 0:Nat):Int))) kR (fAU64 (cy+((lim a).getD i 0):Nat) ((lim b).getD i 0) oM))
 refine lL hs [.m 7 30] (lNS (lL hs [.m 31 6,.m 32 8,.m 33 7] (lV 34 (.int .u32 (((cy+((lim a).getD i 0):Nat)+((lim b).getD i 0):Nat)%4294967296:Nat)) ?_ (hr:=rint (n:=IntKind.wrap .u32 (((cy+((lim a).getD i 0):Nat)+((lim b).getD i 0):Nat):Int)) kR (wrU32 _)))))
 refine lX 35 (some ⟨b1,0,none⟩) (((max (lim a).length (lim b).length):Nat)+1:Nat) (((max (lim a).length (lim b).length):Nat)+1:Nat) 1 (i:Nat) i rfl ?_
 refine lW 0 z u32c 1 i (((cy+((lim a).getD i 0):Nat)+((lim b).getD i 0):Nat)%4294967296:Nat) hs oM (fun w20 hs=>?_)
 have hl21:((z).set i (((cy+((lim a).getD i 0):Nat)+((lim b).getD i 0):Nat)%4294967296:Nat)).length=(((max (lim a).length (lim b).length):Nat)+1:Nat):=by rw[List.length_set];exact hll
 replace hs:=hs.to [⟨b1,159,((z).set i (((cy+((lim a).getD i 0):Nat)+((lim b).getD i 0):Nat)%4294967296:Nat)).flatMap u32c⟩] []
 refine lN (CG.listed (lL hs [.m 36 7] (lV 37 (.int .u64 (((cy+((lim a).getD i 0):Nat)+((lim b).getD i 0):Nat)/4294967296:Nat)) ?_ (hr:=rint (n:=Int.fdiv (((cy+((lim a).getD i 0):Nat)+((lim b).getD i 0):Nat):Int) 4294967296) kR (fdivNat _ 4294967296)))))
 refine lL hs [.m 7 37] (lN (CG.listed (lL hs [.m 20 8] (lIn 21 ((i:Nat)+1) (i+1) ?_))))
 refine lL hs [.m 8 21] (lD ?_)
 intro a_ ka
 have q22:(i+1)≤(max (lim a).length (lim b).length)+1:=by omega
 have q23:((z).set i (((cy+((lim a).getD i 0):Nat)+((lim b).getD i 0):Nat)%4294967296:Nat)).length=(max (lim a).length (lim b).length)+1:=hl21
 have q24:Ld ((z).set i (((cy+((lim a).getD i 0):Nat)+((lim b).getD i 0):Nat)%4294967296:Nat)):=hW.set _ oM
 have q25:(((cy+((lim a).getD i 0):Nat)+((lim b).getD i 0):Nat)/4294967296:Nat)≤1:=oM
 have q26:bval 4294967296 ((z).set i (((cy+((lim a).getD i 0):Nat)+((lim b).getD i 0):Nat)%4294967296:Nat))+4294967296^(i+1)*(((cy+((lim a).getD i 0):Nat)+((lim b).getD i 0):Nat)/4294967296:Nat)=bval 4294967296 ((lim a).take (i+1))+bval 4294967296 ((lim b).take (i+1)):=(by rw[put_step (t:=(lim a).getD i 0+(lim b).getD i 0) oM (hz i (Nat.le_refl _)) inv oM,bval_take_next,bval_take_next,Nat.mul_add];omega)
 have q27:∀ k,(i+1)≤k→((z).set i (((cy+((lim a).getD i 0):Nat)+((lim b).getD i 0):Nat)%4294967296:Nat)).getD k 0=0:=zero_put oM hz
 refine ⟨_,_,?_,⟨i+1,(z).set i (((cy+((lim a).getD i 0):Nat)+((lim b).getD i 0):Nat)%4294967296:Nat),(((cy+((lim a).getD i 0):Nat)+((lim b).getD i 0):Nat)/4294967296:Nat),h19,rfl,rfl,hs.to _ _,q22,q23,q24,q25,q26,q27⟩,ka.to [(0,.slice A ((lim a).length) c),(1,.slice D ((lim b).length) d),(4,.slice none 0 0),(5,.int .i64 ((max (lim a).length (lim b).length):Nat)),(6,.slice (some ⟨b1,0,none⟩) (((max (lim a).length (lim b).length):Nat)+1:Nat) (((max (lim a).length (lim b).length):Nat)+1:Nat)),(8,.int .i64 ((i+1):Nat)),(7,.int .u64 ((((cy+((lim a).getD i 0):Nat)+((lim b).getD i 0):Nat)/4294967296:Nat):Nat))] kR⟩
 omega
theorem rNatSub (a:Nat)(A:Option Addr)(c:Nat)(hc:(lim a).length≤c)(b:Nat)(D:Option Addr)(d:Nat)(hd:(lim b).length≤d)(hLa:(lim a).length≤4000000000)(hLb:(lim b).length≤4000000000)(hba:b≤a)(w:World)(h:Hp)(g:G w h)(hA:SlO 1 u32c 0 h A (lim a))(hD:SlO 1 u32c 0 h D (lim b)) :
    Calls Tryz.prog 145 #[.slice A ((lim a).length) c,.slice D ((lim b).length) d] w (Ret w h fun v h1=>RN h1 v (a-b)):=by
 have hs:=SS.start g
 replace hs:=((hs.a_SlO hA).a_SlO hD)
 have hlm:=lim_len_mono hba
 refine go Tryz.func145 [(0,.slice A ((lim a).length) c),(1,.slice D ((lim b).length) d)] rfl ?_
 refine cSL (lL hs [.v 4 (.slice none 0 0)] (lNS (lL hs [.m 9 0,.v 10 (.int .i64 ((lim a).length:Nat))] (lK 11 159 ((lim a).length) 1 4 (.int .u32 0) u32c 0 hs (fun b1 w2 h3 hs=>?_)))))
 have hl4:(List.replicate ((lim a).length) 0).length=((lim a).length):=by simp
 refine lL hs [.m 5 11] (lNS (lL hs [.v 6 (.int .u64 0)] (lN (CG.seq (cSL (lL hs [.v 7 (.int .i64 0)] (lN (CG.block (cTo [(0,.slice A ((lim a).length) c),(1,.slice D ((lim b).length) d),(4,.slice none 0 0),(5,.slice (some ⟨b1,0,none⟩) ((lim a).length) ((lim a).length)),(7,.int .i64 0),(6,.int .u64 0)] ?_)))))))))
 refine CG.loop (fun μ_ Γ w_=>∃ (i:Nat) (z:List Nat) (br:Nat) (h_:Hp),μ_=(lim a).length-i∧Γ=[(0,.slice A ((lim a).length) c),(1,.slice D ((lim b).length) d),(4,.slice none 0 0),(5,.slice (some ⟨b1,0,none⟩) ((lim a).length) ((lim a).length)),(7,.int .i64 (i:Nat)),(6,.int .u64 (br:Nat))]∧SS w h w_ h_ [⟨b1,159,(z).flatMap u32c⟩] [] [fun h_=>SlO 1 u32c 0 h_ D (lim b),fun h_=>SlO 1 u32c 0 h_ A (lim a)]∧(i≤(lim a).length)∧(z.length=(lim a).length)∧(Ld z)∧(br≤1)∧(bval 4294967296 z+bval 4294967296 ((lim b).take i)=bval 4294967296 ((lim a).take i)+4294967296^i*br)∧(∀ k,i≤k→z.getD k 0=0)) _ ⟨0,List.replicate ((lim a).length) 0,0,h3,rfl,rfl,hs.to _ _,Nat.zero_le _,hl4,Ld.rep _,oM,(by rw[bval_rep];simp[bval]),fun k _=>getD_rep⟩ ?_
 rintro _ _ w5 ⟨i,z,br,h6,hm7,rfl,hs,hi,hll,hW,hbr,inv,hz⟩
 have hai:=(Ld.lim a).get i
 have hbi:=(Ld.lim b).get i
 refine CG.seq (cSL (lL hs [.m 12 7,.m 13 0,.v 14 (.int .i64 ((lim a).length:Nat))] ?_))
 cases hb8:(decide (((i:Nat):Int)<(((lim a).length:Nat):Int)))
 ·
  have phb8:=oF hb8
  refine lB 15 hb8 ?_
  refine lN (cIF (CG.exit ?_))
  show CG _ _ _ _ _ _ _ _
  refine cSL (lL hs [.m 36 5] ?_)
  have hin:i=(lim a).length:=by omega
  rw[List.take_of_length_le (show (lim a).length≤i by omega),List.take_of_length_le (show (lim b).length≤i by omega),bval_lim,bval_lim,hin,←hll] at inv
  have hE:bval 4294967296 z=a-b:=bsub_end hW inv hba
  obtain ⟨h9,hs,sg10,lo11,bc12⟩:=hs.pub 0
  replace hs:=(hs.to [] []).a_SlO (SlO.of_flat (sz:=1) (f:=u32c) (d:=0) (b:=b1) (o:=0) (l:=z) (fun _=>rfl) sg10)
  refine lC 37 hs (rTrim (some ⟨b1,0,none⟩) ((lim a).length) z ((lim a).length) hll oM oM _ _ hs.g (hs.f.1)) ?_
  rintro _ w14 h15 hs rfl
  exact lL hs [.m 4 37] (lN (CG.ret (hs.ret [] (.slice (some ⟨b1,0,none⟩) (tl z ((lim a).length)) ((lim a).length)) (RN.trim hW hE hll (Nat.le_refl _) (hs.f.1)))))
 have phb8:=oT hb8
 refine lB 15 hb8 ?_
 refine lN (cIT (CG.skipN (CG.seq (CG.block (CG.seq (cR 11 [] mixed hs al_nil ?_))))))
 refine eV 0 18 (.slice A ((lim a).length) c) ?_
 refine eV 1 19 (.int .i64 (i:Nat)) ?_
 refine eX 2 20 A ((lim a).length) c 1 (i:Nat) i ((hs.f.2.1).ok oM) ?_
 refine eH 3 21 (.int .u32 ((lim a).getD i 0:Nat)) hs ((hs.f.2.1).el i oM) ?_
 refine eV 4 22 (.int .u64 ((lim a).getD i 0:Nat)) ?_ (hv:=fun _=>rint (n:=IntKind.wrap .u64 (((lim a).getD i 0:Nat):Int)) kR (fitU64 oM oM))
 refine eV 5 23 (.slice D ((lim b).length) d) ?_
 refine eV 6 24 (.int .i64 (i:Nat)) ?_
 refine eV 9 27 (.int .u64 (br:Nat)) ?_
 refine eC 7 25 hs (fun _ _ hs=>rAt D d (lim b) ((lim b).length) rfl i oM (Ld.lim _) _ _ hs.g (hs.f.1)) ?_
 rintro _ _ _ w16 h17 hs rfl
 refine eV 8 26 (.int .u64 ((((lim a).getD i 0)+(18446744073709551616-((lim b).getD i 0)))%18446744073709551616:Nat)) ?_ (hv:=fun _=>rint (n:=IntKind.wrap .u64 ((((lim a).getD i 0:Nat):Int)-(((lim b).getD i 0:Nat):Int))) kR (wSU64 ((lim a).getD i 0) ((lim b).getD i 0) oM))
 refine eV 10 28 (.int .u64 ((((((lim a).getD i 0)+(18446744073709551616-((lim b).getD i 0)))%18446744073709551616:Nat)+(18446744073709551616-br))%18446744073709551616:Nat)) ?_ (hv:=fun _=>rint (n:=IntKind.wrap .u64 ((((((lim a).getD i 0)+(18446744073709551616-((lim b).getD i 0)))%18446744073709551616:Nat):Int)-((br:Nat):Int))) kR (wSU64 ((((lim a).getD i 0)+(18446744073709551616-((lim b).getD i 0)))%18446744073709551616:Nat) br oM))
 refine eD0 hs (fun w18 h19 hs=>?_)
 refine tV 11 8 (.int .u64 ((((((lim a).getD i 0)+(18446744073709551616-((lim b).getD i 0)))%18446744073709551616:Nat)+(18446744073709551616-br))%18446744073709551616:Nat)) ?_
 refine tNS ?_
 obtain ⟨t,ht⟩:∃ t,t=((((((lim a).getD i 0)+(18446744073709551616-((lim b).getD i 0)))%18446744073709551616:Nat)+(18446744073709551616-br))%18446744073709551616:Nat):=⟨_,rfl⟩
 obtain ⟨hS1,hS2⟩:=sub32 hai hbi hbr ht
 rw[ht] at hS1 hS2
 refine lL hs [.m 29 5,.m 30 7,.m 31 8] (lV 32 (.int .u32 (((((((lim a).getD i 0)+(18446744073709551616-((lim b).getD i 0)))%18446744073709551616:Nat)+(18446744073709551616-br))%18446744073709551616:Nat)%4294967296:Nat)) ?_ (hr:=rint (n:=IntKind.wrap .u32 (((((((lim a).getD i 0)+(18446744073709551616-((lim b).getD i 0)))%18446744073709551616:Nat)+(18446744073709551616-br))%18446744073709551616:Nat):Int)) kR (wrU32 _)))
 refine lX 33 (some ⟨b1,0,none⟩) ((lim a).length) ((lim a).length) 1 (i:Nat) i rfl ?_
 refine lW 0 z u32c 1 i (((((((lim a).getD i 0)+(18446744073709551616-((lim b).getD i 0)))%18446744073709551616:Nat)+(18446744073709551616-br))%18446744073709551616:Nat)%4294967296:Nat) hs oM (fun w20 hs=>?_)
 have hl21:((z).set i (((((((lim a).getD i 0)+(18446744073709551616-((lim b).getD i 0)))%18446744073709551616:Nat)+(18446744073709551616-br))%18446744073709551616:Nat)%4294967296:Nat)).length=((lim a).length):=by rw[List.length_set];exact hll
 replace hs:=hs.to [⟨b1,159,((z).set i (((((((lim a).getD i 0)+(18446744073709551616-((lim b).getD i 0)))%18446744073709551616:Nat)+(18446744073709551616-br))%18446744073709551616:Nat)%4294967296:Nat)).flatMap u32c⟩] []
 refine lN (CG.listed (lL hs [.m 34 8] (lV 35 (.int .u64 (((((((lim a).getD i 0)+(18446744073709551616-((lim b).getD i 0)))%18446744073709551616:Nat)+(18446744073709551616-br))%18446744073709551616:Nat)/9223372036854775808:Nat)) ?_ (hr:=rint (n:=Int.fdiv (((((((lim a).getD i 0)+(18446744073709551616-((lim b).getD i 0)))%18446744073709551616:Nat)+(18446744073709551616-br))%18446744073709551616:Nat):Int) 9223372036854775808) kR (fdivNat _ 9223372036854775808)))))
 refine lL hs [.m 6 35] (lN (CG.listed (lL hs [.m 16 7] (lIn 17 ((i:Nat)+1) (i+1) ?_))))
 refine lL hs [.m 7 17] (lD ?_)
 intro a_ ka
 have q22:(i+1)≤(lim a).length:=by omega
 have q23:((z).set i (((((((lim a).getD i 0)+(18446744073709551616-((lim b).getD i 0)))%18446744073709551616:Nat)+(18446744073709551616-br))%18446744073709551616:Nat)%4294967296:Nat)).length=(lim a).length:=hl21
 have q24:Ld ((z).set i (((((((lim a).getD i 0)+(18446744073709551616-((lim b).getD i 0)))%18446744073709551616:Nat)+(18446744073709551616-br))%18446744073709551616:Nat)%4294967296:Nat)):=hW.set _ oM
 have q25:(((((((lim a).getD i 0)+(18446744073709551616-((lim b).getD i 0)))%18446744073709551616:Nat)+(18446744073709551616-br))%18446744073709551616:Nat)/9223372036854775808:Nat)≤1:=hS2
 have q26:bval 4294967296 ((z).set i (((((((lim a).getD i 0)+(18446744073709551616-((lim b).getD i 0)))%18446744073709551616:Nat)+(18446744073709551616-br))%18446744073709551616:Nat)%4294967296:Nat))+bval 4294967296 ((lim b).take (i+1))=bval 4294967296 ((lim a).take (i+1))+4294967296^(i+1)*(((((((lim a).getD i 0)+(18446744073709551616-((lim b).getD i 0)))%18446744073709551616:Nat)+(18446744073709551616-br))%18446744073709551616:Nat)/9223372036854775808:Nat):=(sub_put oM (hz i (Nat.le_refl _)) inv hS1)
 have q27:∀ k,(i+1)≤k→((z).set i (((((((lim a).getD i 0)+(18446744073709551616-((lim b).getD i 0)))%18446744073709551616:Nat)+(18446744073709551616-br))%18446744073709551616:Nat)%4294967296:Nat)).getD k 0=0:=zero_put oM hz
 refine ⟨_,_,?_,⟨i+1,(z).set i (((((((lim a).getD i 0)+(18446744073709551616-((lim b).getD i 0)))%18446744073709551616:Nat)+(18446744073709551616-br))%18446744073709551616:Nat)%4294967296:Nat),(((((((lim a).getD i 0)+(18446744073709551616-((lim b).getD i 0)))%18446744073709551616:Nat)+(18446744073709551616-br))%18446744073709551616:Nat)/9223372036854775808:Nat),h19,rfl,rfl,hs.to _ _,q22,q23,q24,q25,q26,q27⟩,ka.to [(0,.slice A ((lim a).length) c),(1,.slice D ((lim b).length) d),(4,.slice none 0 0),(5,.slice (some ⟨b1,0,none⟩) ((lim a).length) ((lim a).length)),(7,.int .i64 ((i+1):Nat)),(6,.int .u64 ((((((((lim a).getD i 0)+(18446744073709551616-((lim b).getD i 0)))%18446744073709551616:Nat)+(18446744073709551616-br))%18446744073709551616:Nat)/9223372036854775808:Nat):Nat))] kR⟩
 omega
theorem mulL32 {x y:Nat}(hx:x<4294967296)(hy:y<4294967296):x*y≤18446744065119617025:=Nat.mul_le_mul (show x≤4294967295 by omega) (show y≤4294967295 by omega)
theorem quo_remL {a b q r:Nat}(h:a=b*q+r)(hr:r<b):q=a/b∧r=a%b:=by
  subst h
  rw[Nat.mul_add_div oM,Nat.div_eq_of_lt hr,Nat.mul_add_mod,Nat.mod_eq_of_lt hr];simp
theorem zero_setL {l:List Nat}{k j x:Nat}(hk:k<l.length)(h:∀ i,j≤i→l.getD i 0=0)(hj:k<j):∀ i,j≤i→(l.set k x).getD i 0=0:=fun i hi=>by rw[getD_set' hk,if_neg oM];exact h i hi
theorem rNatMul (a:Nat)(A:Option Addr)(c:Nat)(hc:(lim a).length≤c)(b:Nat)(D:Option Addr)(d:Nat)(hd:(lim b).length≤d)(hLa:(lim a).length≤4000000000)(hLb:(lim b).length≤4000000000)(w:World)(h:Hp)(g:G w h)(hA:SlO 1 u32c 0 h A (lim a))(hD:SlO 1 u32c 0 h D (lim b)) :
    Calls Tryz.prog 117 #[.slice A ((lim a).length) c,.slice D ((lim b).length) d] w (Ret w h fun v h1=>RN h1 v (a*b)):=by
 have hs:=SS.start g
 replace hs:=((hs.a_SlO hA).a_SlO hD)
 refine go Tryz.func117 [(0,.slice A ((lim a).length) c),(1,.slice D ((lim b).length) d)] rfl ?_
 refine cSL (lL hs [.v 4 (.slice none 0 0)] (lNS (lL hs [.m 9 0,.v 10 (.int .i64 ((lim a).length:Nat)),.m 11 1,.v 12 (.int .i64 ((lim b).length:Nat))] (lIn 13 (((lim a).length:Nat)+((lim b).length:Nat)) (((lim a).length)+((lim b).length)) ?_))))
 refine lK 14 159 (((lim a).length)+((lim b).length):Nat) 1 4 (.int .u32 0) u32c 0 hs (fun b1 w2 h3 hs=>?_)
 have hl4:(List.replicate (((lim a).length)+((lim b).length):Nat) 0).length=(((lim a).length)+((lim b).length):Nat):=by simp
 refine lL hs [.m 5 14] (lN (CG.seq (cSL (lL hs [.v 6 (.int .i64 0)] (lN (CG.block (cTo [(0,.slice A ((lim a).length) c),(1,.slice D ((lim b).length) d),(4,.slice none 0 0),(5,.slice (some ⟨b1,0,none⟩) (((lim a).length)+((lim b).length):Nat) (((lim a).length)+((lim b).length):Nat)),(6,.int .i64 0)] ?_)))))))
 refine CG.loop (fun μ_ Γ w_=>∃ (i:Nat) (l:List Nat) (h_:Hp),μ_=(lim a).length-i∧Γ=[(0,.slice A ((lim a).length) c),(1,.slice D ((lim b).length) d),(4,.slice none 0 0),(5,.slice (some ⟨b1,0,none⟩) (((lim a).length)+((lim b).length):Nat) (((lim a).length)+((lim b).length):Nat)),(6,.int .i64 (i:Nat))]∧SS w h w_ h_ [⟨b1,159,(l).flatMap u32c⟩] [] [fun h_=>SlO 1 u32c 0 h_ D (lim b),fun h_=>SlO 1 u32c 0 h_ A (lim a)]∧(i≤(lim a).length)∧(l.length=(lim a).length+(lim b).length)∧(Ld l)∧(bval 4294967296 l=bval 4294967296 ((lim a).take i)*b)∧(∀ k,i+(lim b).length≤k→l.getD k 0=0)) _ ⟨0,List.replicate (((lim a).length)+((lim b).length):Nat) 0,h3,rfl,rfl,hs.to _ _,Nat.zero_le _,hl4,Ld.rep _,(by rw[bval_rep];simp[bval]),fun k _=>getD_rep⟩ ?_
 rintro _ _ w5 ⟨i,l,h6,hm7,rfl,hs,hi,hll,hW,hv,hz⟩
 have hai:=(Ld.lim a).get i
 refine CG.seq (cSL (lL hs [.m 15 6,.m 16 0,.v 17 (.int .i64 ((lim a).length:Nat))] ?_))
 cases hb8:(decide (((i:Nat):Int)<(((lim a).length:Nat):Int)))
 ·
  have phb8:=oF hb8
  refine lB 18 hb8 ?_
  refine lN (cIF (CG.exit ?_))
  show CG _ _ _ _ _ _ _ _
  refine cSL (lL hs [.m 65 5] ?_)
  have hix:i=(lim a).length:=by omega
  rw[hix,List.take_length,bval_lim] at hv
  have hE:bval 4294967296 l=a*b:=hv
  obtain ⟨h9,hs,sg10,lo11,bc12⟩:=hs.pub 0
  replace hs:=(hs.to [] []).a_SlO (SlO.of_flat (sz:=1) (f:=u32c) (d:=0) (b:=b1) (o:=0) (l:=l) (fun _=>rfl) sg10)
  refine lC 66 hs (rTrim (some ⟨b1,0,none⟩) (((lim a).length)+((lim b).length):Nat) l (((lim a).length)+((lim b).length):Nat) hll oM oM _ _ hs.g (hs.f.1)) ?_
  rintro _ w14 h15 hs rfl
  exact lL hs [.m 4 66] (lN (CG.ret (hs.ret [] (.slice (some ⟨b1,0,none⟩) (tl l (((lim a).length)+((lim b).length):Nat)) (((lim a).length)+((lim b).length):Nat)) (RN.trim hW hE hll (Nat.le_refl _) (hs.f.1)))))
 have phb8:=oT hb8
 refine lB 18 hb8 ?_
 refine lN (cIT (CG.skipN (CG.seq (CG.block (cSL (lL hs [.v 7 (.int .u64 0)] (lN (CG.seq (cSL (lL hs [.v 8 (.int .i64 0)] (lN (CG.block (cTo [(0,.slice A ((lim a).length) c),(1,.slice D ((lim b).length) d),(4,.slice none 0 0),(5,.slice (some ⟨b1,0,none⟩) (((lim a).length)+((lim b).length):Nat) (((lim a).length)+((lim b).length):Nat)),(6,.int .i64 (i:Nat)),(8,.int .i64 0),(7,.int .u64 0)] ?_)))))))))))))
 refine CG.loop (fun μ_ Γ w_=>∃ (j:Nat) (l2:List Nat) (cy:Nat) (h_:Hp),μ_=(lim b).length-j∧Γ=[(0,.slice A ((lim a).length) c),(1,.slice D ((lim b).length) d),(4,.slice none 0 0),(5,.slice (some ⟨b1,0,none⟩) (((lim a).length)+((lim b).length):Nat) (((lim a).length)+((lim b).length):Nat)),(6,.int .i64 (i:Nat)),(8,.int .i64 (j:Nat)),(7,.int .u64 (cy:Nat))]∧SS w h w_ h_ [⟨b1,159,(l2).flatMap u32c⟩] [] [fun h_=>SlO 1 u32c 0 h_ D (lim b),fun h_=>SlO 1 u32c 0 h_ A (lim a)]∧(j≤(lim b).length)∧(l2.length=(lim a).length+(lim b).length)∧(Ld l2)∧(cy<4294967296)∧(bval 4294967296 l2+4294967296^(i+j)*cy=bval 4294967296 l+4294967296^i*((lim a).getD i 0*bval 4294967296 ((lim b).take j)))∧(∀ k,i+(lim b).length≤k→l2.getD k 0=0)) _ ⟨0,l,0,h6,rfl,rfl,hs.to _ _,Nat.zero_le _,hll,hW,by omega,(by simp[bval]),hz⟩ ?_
 rintro _ _ w16 ⟨j,l2,cy,h17,hm18,rfl,hs,hj,hll2,hW2,hcy,inv,hz2⟩
 have hbj:=(Ld.lim b).get j
 have hlk:=hW2.get (i+j)
 have hxy:=mulL32 hai hbj
 refine CG.seq (cSL (lL hs [.m 21 8,.m 22 1,.v 23 (.int .i64 ((lim b).length:Nat))] ?_))
 cases hb19:(decide (((j:Nat):Int)<(((lim b).length:Nat):Int)))
 ·
  have phb19:=oF hb19
  refine lB 24 hb19 ?_
  refine lN (cIF (CG.exit ?_))
  show CG _ _ _ _ _ _ _ _
  refine CG.listed (lL hs [.m 57 5,.m 58 6,.m 59 1,.v 60 (.int .i64 ((lim b).length:Nat))] (lIn 61 ((i:Nat)+((lim b).length:Nat)) (i+((lim b).length)) ?_))
  refine lL hs [.m 62 7] (lV 63 (.int .u32 (cy%4294967296:Nat)) ?_ (hr:=rint (n:=IntKind.wrap .u32 ((cy:Nat):Int)) kR (wrU32 _)))
  refine lX 64 (some ⟨b1,0,none⟩) (((lim a).length)+((lim b).length):Nat) (((lim a).length)+((lim b).length):Nat) 1 (i+((lim b).length):Nat) (i+((lim b).length):Nat) rfl ?_
  refine lW 0 l2 u32c 1 (i+((lim b).length):Nat) (cy%4294967296) hs oM (fun w20 hs=>?_)
  have hl21:((l2).set (i+((lim b).length):Nat) (cy%4294967296)).length=(((lim a).length)+((lim b).length):Nat):=by rw[List.length_set];exact hll2
  replace hs:=hs.to [⟨b1,159,((l2).set (i+((lim b).length):Nat) (cy%4294967296)).flatMap u32c⟩] []
  refine lN (CG.listed (lL hs [.m 19 6] (lIn 20 ((i:Nat)+1) (i+1) ?_)))
  refine lL hs [.m 6 20] (lD ?_)
  intro a_ ka
  have q22:(i+1)≤(lim a).length:=by omega
  have q23:((l2).set (i+((lim b).length):Nat) (cy%4294967296)).length=(lim a).length+(lim b).length:=hl21
  have q24:Ld ((l2).set (i+((lim b).length):Nat) (cy%4294967296)):=(hW2.set _ oM)
  have q25:bval 4294967296 ((l2).set (i+((lim b).length):Nat) (cy%4294967296))=bval 4294967296 ((lim a).take (i+1))*b:=(by have hjy:j=(lim b).length:=oM;rw[hjy] at inv;have hm_:=mul_end oM inv (hz2 _ oM);rw[bval_lim] at hm_;rw[show cy%4294967296=cy by omega];exact hm_.trans (mul_row hv))
  have q26:∀ k,(i+1)+(lim b).length≤k→((l2).set (i+((lim b).length):Nat) (cy%4294967296)).getD k 0=0:=zero_setL oM (fun k hk=>hz2 k oM) oM
  refine ⟨_,_,?_,⟨i+1,(l2).set (i+((lim b).length):Nat) (cy%4294967296),h17,rfl,rfl,hs.to _ _,q22,q23,q24,q25,q26⟩,ka.to [(0,.slice A ((lim a).length) c),(1,.slice D ((lim b).length) d),(4,.slice none 0 0),(5,.slice (some ⟨b1,0,none⟩) (((lim a).length)+((lim b).length):Nat) (((lim a).length)+((lim b).length):Nat)),(6,.int .i64 ((i+1):Nat))] kR⟩
  omega
 have phb19:=oT hb19
 refine lB 24 hb19 ?_
 refine lN (cIT (CG.skipN (CG.seq (CG.block (CG.seq (cR 21 [] mixed hs al_nil ?_))))))
 refine eV 0 27 (.int .u64 (cy:Nat)) ?_
 refine eV 1 28 (.slice (some ⟨b1,0,none⟩) (((lim a).length)+((lim b).length):Nat) (((lim a).length)+((lim b).length):Nat)) ?_
 refine eV 2 29 (.int .i64 (i:Nat)) ?_
 refine eV 3 30 (.int .i64 (j:Nat)) ?_
 refine eIn 4 31 ((i:Nat)+(j:Nat)) (i+j) ?_
 refine eX 5 32 (some ⟨b1,0,none⟩) (((lim a).length)+((lim b).length):Nat) (((lim a).length)+((lim b).length):Nat) 1 (i+j:Nat) (i+j) rfl ?_
 refine eQ 6 33 0 l2 u32c 1 0 (i+j) (.int .u32 ((l2).getD (i+j) 0:Nat)) hs oM ?_
 refine eV 7 34 (.int .u64 ((l2).getD (i+j) 0:Nat)) ?_ (hv:=fun _=>rint (n:=IntKind.wrap .u64 (((l2).getD (i+j) 0:Nat):Int)) kR (fitU64 oM oM))
 refine eV 8 35 (.int .u64 (cy+((l2).getD (i+j) 0):Nat)) ?_ (hv:=fun _=>rint (n:=IntKind.wrap .u64 (((cy:Nat):Int)+(((l2).getD (i+j) 0:Nat):Int))) kR (fAU64 cy ((l2).getD (i+j) 0) oM))
 refine eV 9 36 (.slice A ((lim a).length) c) ?_
 refine eV 10 37 (.int .i64 (i:Nat)) ?_
 refine eX 11 38 A ((lim a).length) c 1 (i:Nat) i ((hs.f.2.1).ok oM) ?_
 refine eH 12 39 (.int .u32 ((lim a).getD i 0:Nat)) hs ((hs.f.2.1).el i oM) ?_
 refine eV 13 40 (.int .u64 ((lim a).getD i 0:Nat)) ?_ (hv:=fun _=>rint (n:=IntKind.wrap .u64 (((lim a).getD i 0:Nat):Int)) kR (fitU64 oM oM))
 refine eV 14 41 (.slice D ((lim b).length) d) ?_
 refine eV 15 42 (.int .i64 (j:Nat)) ?_
 refine eX 16 43 D ((lim b).length) d 1 (j:Nat) j ((hs.f.1).ok oM) ?_
 refine eH 17 44 (.int .u32 ((lim b).getD j 0:Nat)) hs ((hs.f.1).el j oM) ?_
 refine eV 18 45 (.int .u64 ((lim b).getD j 0:Nat)) ?_ (hv:=fun _=>rint (n:=IntKind.wrap .u64 (((lim b).getD j 0:Nat):Int)) kR (fitU64 oM oM))
 refine eV 19 46 (.int .u64 (((lim a).getD i 0)*((lim b).getD j 0):Nat)) ?_ (hv:=fun _=>rint (n:=IntKind.wrap .u64 ((((lim a).getD i 0:Nat):Int)*(((lim b).getD j 0:Nat):Int))) kR (fMU64 ((lim a).getD i 0) ((lim b).getD j 0) oM))
 refine eV 20 47 (.int .u64 ((cy+((l2).getD (i+j) 0):Nat)+(((lim a).getD i 0)*((lim b).getD j 0):Nat):Nat)) ?_ (hv:=fun _=>rint (n:=IntKind.wrap .u64 (((cy+((l2).getD (i+j) 0):Nat):Int)+((((lim a).getD i 0)*((lim b).getD j 0):Nat):Int))) kR (fAU64 (cy+((l2).getD (i+j) 0):Nat) (((lim a).getD i 0)*((lim b).getD j 0):Nat) oM))
 refine eD0 hs (fun w27 h28 hs=>?_)
 refine tV 21 7 (.int .u64 ((cy+((l2).getD (i+j) 0):Nat)+(((lim a).getD i 0)*((lim b).getD j 0):Nat):Nat)) ?_
 refine tNS ?_
 refine lL hs [.m 48 5,.m 49 6,.m 50 8] (lIn 51 ((i:Nat)+(j:Nat)) (i+j) ?_)
 refine lL hs [.m 52 7] (lV 53 (.int .u32 (((cy+((l2).getD (i+j) 0):Nat)+(((lim a).getD i 0)*((lim b).getD j 0):Nat):Nat)%4294967296:Nat)) ?_ (hr:=rint (n:=IntKind.wrap .u32 (((cy+((l2).getD (i+j) 0):Nat)+(((lim a).getD i 0)*((lim b).getD j 0):Nat):Nat):Int)) kR (wrU32 _)))
 refine lX 54 (some ⟨b1,0,none⟩) (((lim a).length)+((lim b).length):Nat) (((lim a).length)+((lim b).length):Nat) 1 (i+j:Nat) (i+j) rfl ?_
 refine lW 0 l2 u32c 1 (i+j) (((cy+((l2).getD (i+j) 0):Nat)+(((lim a).getD i 0)*((lim b).getD j 0):Nat):Nat)%4294967296:Nat) hs oM (fun w29 hs=>?_)
 have hl30:((l2).set (i+j) (((cy+((l2).getD (i+j) 0):Nat)+(((lim a).getD i 0)*((lim b).getD j 0):Nat):Nat)%4294967296:Nat)).length=(((lim a).length)+((lim b).length):Nat):=by rw[List.length_set];exact hll2
 replace hs:=hs.to [⟨b1,159,((l2).set (i+j) (((cy+((l2).getD (i+j) 0):Nat)+(((lim a).getD i 0)*((lim b).getD j 0):Nat):Nat)%4294967296:Nat)).flatMap u32c⟩] []
 refine lN (CG.listed (lL hs [.m 55 7] (lV 56 (.int .u64 (((cy+((l2).getD (i+j) 0):Nat)+(((lim a).getD i 0)*((lim b).getD j 0):Nat):Nat)/4294967296:Nat)) ?_ (hr:=rint (n:=Int.fdiv (((cy+((l2).getD (i+j) 0):Nat)+(((lim a).getD i 0)*((lim b).getD j 0):Nat):Nat):Int) 4294967296) kR (fdivNat _ 4294967296)))))
 refine lL hs [.m 7 56] (lN (cTo [(0,.slice A ((lim a).length) c),(1,.slice D ((lim b).length) d),(4,.slice none 0 0),(5,.slice (some ⟨b1,0,none⟩) (((lim a).length)+((lim b).length):Nat) (((lim a).length)+((lim b).length):Nat)),(6,.int .i64 (i:Nat)),(8,.int .i64 (j:Nat)),(7,.int .u64 (((cy+((l2).getD (i+j) 0):Nat)+(((lim a).getD i 0)*((lim b).getD j 0):Nat):Nat)/4294967296:Nat))] ?_))
 refine CG.listed (lL hs [.m 25 8] (lIn 26 ((j:Nat)+1) (j+1) ?_))
 refine lL hs [.m 8 26] (lD ?_)
 intro a_ ka
 have q31:(j+1)≤(lim b).length:=by omega
 have q32:((l2).set (i+j) (((cy+((l2).getD (i+j) 0):Nat)+(((lim a).getD i 0)*((lim b).getD j 0):Nat):Nat)%4294967296:Nat)).length=(lim a).length+(lim b).length:=hl30
 have q33:Ld ((l2).set (i+j) (((cy+((l2).getD (i+j) 0):Nat)+(((lim a).getD i 0)*((lim b).getD j 0):Nat):Nat)%4294967296:Nat)):=(hW2.set _ oM)
 have q34:(((cy+((l2).getD (i+j) 0):Nat)+(((lim a).getD i 0)*((lim b).getD j 0):Nat):Nat)/4294967296:Nat)<4294967296:=by omega
 have q35:bval 4294967296 ((l2).set (i+j) (((cy+((l2).getD (i+j) 0):Nat)+(((lim a).getD i 0)*((lim b).getD j 0):Nat):Nat)%4294967296:Nat))+4294967296^(i+(j+1))*(((cy+((l2).getD (i+j) 0):Nat)+(((lim a).getD i 0)*((lim b).getD j 0):Nat):Nat)/4294967296:Nat)=bval 4294967296 l+4294967296^i*((lim a).getD i 0*bval 4294967296 ((lim b).take (j+1))):=mul_step oM inv oM
 have q36:∀ k,i+(lim b).length≤k→((l2).set (i+j) (((cy+((l2).getD (i+j) 0):Nat)+(((lim a).getD i 0)*((lim b).getD j 0):Nat):Nat)%4294967296:Nat)).getD k 0=0:=zero_setL oM hz2 oM
 refine ⟨_,_,?_,⟨j+1,(l2).set (i+j) (((cy+((l2).getD (i+j) 0):Nat)+(((lim a).getD i 0)*((lim b).getD j 0):Nat):Nat)%4294967296:Nat),(((cy+((l2).getD (i+j) 0):Nat)+(((lim a).getD i 0)*((lim b).getD j 0):Nat):Nat)/4294967296:Nat),h28,rfl,rfl,hs.to _ _,q31,q32,q33,q34,q35,q36⟩,ka.to [(0,.slice A ((lim a).length) c),(1,.slice D ((lim b).length) d),(4,.slice none 0 0),(5,.slice (some ⟨b1,0,none⟩) (((lim a).length)+((lim b).length):Nat) (((lim a).length)+((lim b).length):Nat)),(6,.int .i64 (i:Nat)),(8,.int .i64 ((j+1):Nat)),(7,.int .u64 ((((cy+((l2).getD (i+j) 0):Nat)+(((lim a).getD i 0)*((lim b).getD j 0):Nat):Nat)/4294967296:Nat):Nat))] kR⟩
 omega
theorem rOne (a:Nat)(A:Option Addr)(c:Nat)(hc:(lim a).length≤c)(hLa:(lim a).length≤4000000000)(d:Nat)(hd0:0<d)(hd:d<4294967296)(w:World)(h:Hp)(g:G w h)(hA:SlO 1 u32c 0 h A (lim a)) :
    Calls Tryz.prog 146 #[.slice A ((lim a).length) c,.int .u32 (d:Nat)] w (Ret w h fun v h1=>∃ v1,∃ r:Nat,v=.tuple #[v1,.int .u32 (r:Nat)]∧RN h1 v1 (a/d)∧r=a%d):=by
 have hs:=SS.start g
 replace hs:=(hs.a_SlO hA)
 refine go Tryz.func146 [(0,.slice A ((lim a).length) c),(1,.int .u32 (d:Nat))] rfl ?_
 refine cSL (lL hs [.v 4 (.slice none 0 0),.v 5 (.int .u32 0)] (lNS (lL hs [.m 9 0,.v 10 (.int .i64 ((lim a).length:Nat))] (lK 11 159 ((lim a).length) 1 4 (.int .u32 0) u32c 0 hs (fun b1 w2 h3 hs=>?_)))))
 have hl4:(List.replicate ((lim a).length) 0).length=((lim a).length):=by simp
 refine lL hs [.m 6 11] (lNS (lL hs [.v 7 (.int .u64 0)] (lN (CG.seq (cSL (lL hs [.m 12 0,.v 13 (.int .i64 ((lim a).length:Nat))] (lV 14 (.int .i64 ((((lim a).length:Nat):Int)-1)) ?_ (hr:=rint (n:=IntKind.wrap .i64 (((lim a).length:Nat)-1)) kR ((wr64 oM oM).trans oM)))))))))
 refine lL hs [.m 8 14] (lN (CG.block (cTo [(0,.slice A ((lim a).length) c),(1,.int .u32 (d:Nat)),(4,.slice none 0 0),(5,.int .u32 0),(6,.slice (some ⟨b1,0,none⟩) ((lim a).length) ((lim a).length)),(8,.int .i64 ((((lim a).length:Nat):Int)-1)),(7,.int .u64 0)] ?_)))
 refine CG.loop (fun μ_ Γ w_=>∃ (m:Nat) (z:List Nat) (r:Nat) (h_:Hp),μ_=m∧Γ=[(0,.slice A ((lim a).length) c),(1,.int .u32 (d:Nat)),(4,.slice none 0 0),(5,.int .u32 0),(6,.slice (some ⟨b1,0,none⟩) ((lim a).length) ((lim a).length)),(8,.int .i64 (((m:Nat):Int)-1)),(7,.int .u64 (r:Nat))]∧SS w h w_ h_ [⟨b1,159,(z).flatMap u32c⟩] [] [fun h_=>SlO 1 u32c 0 h_ A (lim a)]∧(m≤(lim a).length)∧(z.length=(lim a).length)∧(Ld z)∧(a=d*bval 4294967296 z+(4294967296^m*r+bval 4294967296 ((lim a).take m)))∧(r<d)∧(∀ k,k<m→z.getD k 0=0)) _ ⟨(lim a).length,List.replicate ((lim a).length) 0,0,h3,rfl,rfl,hs.to _ _,Nat.le_refl _,hl4,Ld.rep _,(by rw[bval_rep,List.take_length,bval_lim];simp),hd0,fun k _=>getD_rep⟩ ?_
 rintro _ _ w5 ⟨m,z,r,h6,hm7,rfl,hs,hm,hzl,hZ,inv,hr,hz⟩
 have hai:=(Ld.lim a).get (m-1)
 refine CG.seq (cSL (lL hs [.m 15 8] ?_))
 cases hb8:(decide ((0:Int)≤(((m:Nat):Int)-1:Int)))
 ·
  have phb8:=oF hb8
  refine lB 16 hb8 ?_
  refine lN (cIF (CG.exit ?_))
  show CG _ _ _ _ _ _ _ _
  refine cSL (lL hs [.m 39 6] ?_)
  have hm0:m=0:=by omega
  rw[hm0,Nat.pow_zero,Nat.one_mul,List.take_zero] at inv
  have inv_:a=d*bval 4294967296 z+r:=by simpa [bval] using inv
  obtain ⟨hE_,hE2⟩:=quo_remL inv_ hr
  have hE:bval 4294967296 z=a/d:=hE_
  obtain ⟨h9,hs,sg10,lo11,bc12⟩:=hs.pub 0
  replace hs:=(hs.to [] []).a_SlO (SlO.of_flat (sz:=1) (f:=u32c) (d:=0) (b:=b1) (o:=0) (l:=z) (fun _=>rfl) sg10)
  refine lC 40 hs (rTrim (some ⟨b1,0,none⟩) ((lim a).length) z ((lim a).length) hzl oM oM _ _ hs.g (hs.f.1)) ?_
  rintro _ w14 h15 hs rfl
  refine lL hs [.m 41 7] (lV 42 (.int .u32 (r:Nat)) ?_ (hr:=rint (rint (n:=IntKind.wrap .u32 ((r:Nat):Int)) kR (wrU32 _)) oM))
  exact lL hs [.m 4 40,.m 5 42] (lN (CG.ret (hs.ret [] (.tuple #[.slice (some ⟨b1,0,none⟩) (tl z ((lim a).length)) ((lim a).length),.int .u32 (r:Nat)]) (⟨_,r,rfl,RN.trim hZ hE hzl (Nat.le_refl _) (hs.f.1),hE2⟩))))
 have phb8:=oT hb8
 refine lB 16 hb8 ?_
 refine lN (cIT (CG.skipN (CG.seq (CG.block (cSL (lL hs [.m 19 7] (lV 20 (.int .u64 (r*4294967296%18446744073709551616:Nat)) ?_ (hr:=rint (n:=IntKind.wrap .u64 (((r:Nat):Int)*4294967296)) kR (wMU64 r 4294967296)))))))))
 refine lL hs [.m 21 0,.m 22 8] (lX 23 A ((lim a).length) c 1 (((m:Nat):Int)-1) (m-1) ((hs.f.1).ok oM) ?_)
 refine lH 24 (.int .u32 ((lim a).getD (m-1) 0:Nat)) hs ((hs.f.1).el (m-1) oM) ?_
 refine lV 25 (.int .u64 ((lim a).getD (m-1) 0:Nat)) ?_ (hr:=rint (n:=IntKind.wrap .u64 (((lim a).getD (m-1) 0:Nat):Int)) kR (fitU64 oM oM))
 refine lV 26 (.int .u64 (r*4294967296+(lim a).getD (m-1) 0:Nat)) ?_ (hr:=rint (opOr (t:=50) (u:=50) (x:=.tmp 20) (y:=.tmp 25) (a:=(r*4294967296%18446744073709551616)) (b:=((lim a).getD (m-1) 0)) kR kR kR oM oM _) (by rw[Nat.mod_eq_of_lt (show r*4294967296<18446744073709551616 by omega),or_lo2 hai]))
 refine lL hs [.m 7 26] (lNS (lL hs [.m 27 6,.m 28 8,.m 29 7,.m 30 1] (lV 31 (.int .u64 (d:Nat)) ?_ (hr:=rint (n:=IntKind.wrap .u64 ((d:Nat):Int)) kR (fitU64 oM oM)))))
 have hqr:=div_rem32 (r:=r) (x:=(lim a).getD (m-1) 0) hd0 hr hai hd
 refine lV 32 (.int .u64 ((r*4294967296+(lim a).getD (m-1) 0)/d:Nat)) ?_ (hr:=rint (opQuo (t:=50) (u:=50) (x:=.tmp 29) (y:=.tmp 31) (k:=.u64) (a:=((r*4294967296+(lim a).getD (m-1) 0:Nat):Int)) (b:=((d:Nat):Int)) kR kR kR oM _) (quoU64 (r*4294967296+(lim a).getD (m-1) 0) d oM))
 refine lV 33 (.int .u32 (((r*4294967296+(lim a).getD (m-1) 0)/d:Nat)%4294967296:Nat)) ?_ (hr:=rint (n:=IntKind.wrap .u32 (((r*4294967296+(lim a).getD (m-1) 0)/d:Nat):Int)) kR (wrU32 _))
 refine lX 34 (some ⟨b1,0,none⟩) ((lim a).length) ((lim a).length) 1 (((m:Nat):Int)-1) (m-1) rfl ?_
 refine lW 0 z u32c 1 (m-1) (((r*4294967296+(lim a).getD (m-1) 0)/d:Nat)%4294967296:Nat) hs oM (fun w16 hs=>?_)
 have hl17:((z).set (m-1) (((r*4294967296+(lim a).getD (m-1) 0)/d:Nat)%4294967296:Nat)).length=((lim a).length):=by rw[List.length_set];exact hzl
 replace hs:=hs.to [⟨b1,159,((z).set (m-1) (((r*4294967296+(lim a).getD (m-1) 0)/d:Nat)%4294967296:Nat)).flatMap u32c⟩] []
 refine lN (CG.listed (lL hs [.m 35 7,.m 36 1] (lV 37 (.int .u64 (d:Nat)) ?_ (hr:=rint (n:=IntKind.wrap .u64 ((d:Nat):Int)) kR (fitU64 oM oM)))))
 refine lV 38 (.int .u64 ((r*4294967296+(lim a).getD (m-1) 0)%d:Nat)) ?_ (hr:=rint (opRem (t:=50) (u:=50) (x:=.tmp 35) (y:=.tmp 37) (k:=.u64) (a:=((r*4294967296+(lim a).getD (m-1) 0:Nat):Int)) (b:=((d:Nat):Int)) kR kR kR oM _) (tmodNat (r*4294967296+(lim a).getD (m-1) 0) d))
 refine lL hs [.m 7 38] (lN (CG.listed (lL hs [.m 17 8] (lV 18 (.int .i64 (((m-1:Nat):Int)-1)) ?_ (hr:=rint (n:=IntKind.wrap .i64 ((((m:Nat):Int)-1)-1)) kR ((wr64 oM oM).trans oM))))))
 refine lL hs [.m 8 18] (lD ?_)
 intro a_ ka
 have q18:(m-1)≤(lim a).length:=by omega
 have q19:((z).set (m-1) (((r*4294967296+(lim a).getD (m-1) 0)/d:Nat)%4294967296:Nat)).length=(lim a).length:=hl17
 have q20:Ld ((z).set (m-1) (((r*4294967296+(lim a).getD (m-1) 0)/d:Nat)%4294967296:Nat)):=(hZ.set _ (Nat.mod_lt _ kD))
 have q21:a=d*bval 4294967296 ((z).set (m-1) (((r*4294967296+(lim a).getD (m-1) 0)/d:Nat)%4294967296:Nat))+(4294967296^(m-1)*((r*4294967296+(lim a).getD (m-1) 0)%d:Nat)+bval 4294967296 ((lim a).take (m-1))):=(by rw[hqr.1];exact one_step oM oM (hz _ oM) inv hqr.2.1)
 have q22:((r*4294967296+(lim a).getD (m-1) 0)%d:Nat)<d:=hqr.2.2
 have q23:∀ k,k<(m-1)→((z).set (m-1) (((r*4294967296+(lim a).getD (m-1) 0)/d:Nat)%4294967296:Nat)).getD k 0=0:=(fun k hk=>by rw[getD_set' oM,if_neg oM];exact hz k oM)
 refine ⟨_,_,?_,⟨m-1,(z).set (m-1) (((r*4294967296+(lim a).getD (m-1) 0)/d:Nat)%4294967296:Nat),((r*4294967296+(lim a).getD (m-1) 0)%d:Nat),h6,rfl,rfl,hs.to _ _,q18,q19,q20,q21,q22,q23⟩,ka.to [(0,.slice A ((lim a).length) c),(1,.int .u32 (d:Nat)),(4,.slice none 0 0),(5,.int .u32 0),(6,.slice (some ⟨b1,0,none⟩) ((lim a).length) ((lim a).length)),(8,.int .i64 ((((m-1):Nat):Int)-1)),(7,.int .u64 (((r*4294967296+(lim a).getD (m-1) 0)%d:Nat):Nat))] kR⟩
 omega
theorem partsA_mem {B:List Bx}:∀ (ps:List (Nat × Nat × Nat)) (q:Nat) (a:Addr),(partsA B ps)[q]?=some a→∃ p∈ps,a.block=(bxAt B p.1).b:=by
  intro ps
  induction ps with
  | nil=>intro q a h;simp[partsA] at h
  | cons p ps ih =>
    intro q a h
    unfold partsA at h
    rcases Nat.lt_or_ge q (mka (bxAt B p.1).b p.2.1 p.2.2).length with hl|hl
    · rw[List.getElem?_append_left hl] at h
      exact ⟨p,by simp,by rw[mka_get _ _ _ _ _ h]⟩
    · rw[List.getElem?_append_right hl] at h
      obtain ⟨p',hp',e⟩:=ih _ _ h
      exact ⟨p',by simp[hp'],e⟩
section
variable {M:Ms} {P:Program} {n:Nat} {N R:Po} {X:Nat→Po} {ops:Array Oper} {k k0:Nat} {L:Array Bool} {Γ:Env} {w:World} {h:Hp} {w0:World} {h0:Hp} {B:List Bx} {Rs:List Rw} {F:List (Hp→Prop)}
theorem lWu {α:Type}(j:Nat)(l:List α)(f:α→List Value)(sz e:Nat)(x:α)(s:SS w0 h0 w h B Rs F)(hk:e<l.length)(H:∀ w',Put (bxAt B j).b w w'→SS w0 h0 w' h (setV B j ((l.set e x).flatMap f)) Rs F→LG P n N R X ops (k+1) Γ w')(hc:cS ops Γ k=true:=by kernel_rfl)
    (hj:decide (j<B.length)=true:=by kernel_rfl)(hB:(bxAt B j).vs=l.flatMap f:=by kernel_rfl)(hf:∀ x,(f x).length=sz:=by intro _;rfl)
    (he:evalW P (execOp (ev Γ) (opAt ops k))=some (.skip,mkl (bxAt B j).b (0+e*sz) (f x)):=by kernel_rfl):LG P n N R X ops k Γ w :=
  LG.putA j l f sz e x s.st s.g0 (cS_1 hc).1 (cS_1 hc).2 hj hB hf hk he (fun w' p s'=>H w' p (s.put0 (oT hj) p s' (setV_b (oT hj))))
theorem tWu {α:Type}(i j:Nat)(l:List α)(f:α→List Value)(sz e:Nat)(x:α)(s:SS w0 h0 w h B Rs F)(hk:e<l.length)(H:∀ w',Put (bxAt B j).b w w'→SS w0 h0 w' h (setV B j ((l.set e x).flatMap f)) Rs F→AG M P n N R X ops k0 (L.setIfInBounds i true) Γ w')(hc:cTs ops k0 L Γ i=true:=by kernel_rfl)
    (hj:decide (j<B.length)=true:=by kernel_rfl)(hB:(bxAt B j).vs=l.flatMap f:=by kernel_rfl)(hf:∀ x,(f x).length=sz:=by intro _;rfl)
    (he:evalW P (execOp (ev Γ) (opAt ops i))=some (.skip,mkl (bxAt B j).b (0+e*sz) (f x)):=by kernel_rfl)(hz:∀ K bs,M.z=some (K,bs)→K≤(bxAt B j).b∨(bxAt B j).b∈bs:=by intro _ _ e;cases e):AG M P n N R X ops k0 L Γ w :=
  T.putA i j l f sz e x s.st s.g0 (cTs_1 hc).1 (cTs_1 hc).2 hj hB hf hk he (fun w' p s'=>H w' p (s.put0 (oT hj) p s' (setV_b (oT hj)))) hz
theorem aQ {α:Type}(i t j:Nat)(l:List α)(f:α→List Value)(sz:Nat)(d:α)(e:Nat)(v:Value)(s:SS w0 h0 w h B Rs F)(hk:e<l.length)(H:AG M P n N R X ops k0 (L.setIfInBounds i true) ((t,v)::Γ) w)(hM:(bxAt B j).b ∉ M.l:=by exact List.not_mem_nil)(hc:cEl n ops k0 [] L Γ i t=true:=by kernel_rfl)
    (hj:decide (j<B.length)=true:=by kernel_rfl)(hB:(bxAt B j).vs=l.flatMap f:=by kernel_rfl)(hf:∀ x,(f x).length=sz:=by intro _;rfl)
    (he:evalL P (execOp (ev Γ) (opAt ops i)) (f (l.getD e d))=some (.value v,mka (bxAt B j).b (0+e*sz) (f (l.getD e d)).length):=by kernel_rfl):AG M P n N R X ops k0 L Γ w :=
  aL i t v (fun w' hx=>evalL_run _ _ _ _ he (fun q a u ha hu=>by
    rw[mka_get _ _ _ _ _ ha,((s.st.own _ (bxAt_mem (oT hj))).mo hx hM).cell,hB]
    rw[←drop_flat hf d l e hk] at hu
    have hq:q<sz:=by
      rcases Nat.lt_or_ge q sz with hl|hl
      · exact hl
      · rw[List.getElem?_eq_none (by simp;omega)] at hu;cases hu
    rw[List.getElem?_take_of_lt hq,List.getElem?_drop] at hu
    rw[Nat.zero_add];exact hu)) H hc
theorem aOw (i t:Nat)(ps:List (Nat × Nat × Nat))(v:Value)(s:SS w0 h0 w h B Rs F)(H:AG M P n N R X ops k0 (L.setIfInBounds i true) ((t,v)::Γ) w)(hM:M.l=[]:=by rfl)(hc:cEl n ops k0 [] L Γ i t=true:=by kernel_rfl)(hp:partsOk B ps=true:=by kernel_rfl)(he:evalL P (execOp (ev Γ) (opAt ops i)) (partsV B ps)=some (.value v,partsA B ps):=by kernel_rfl):AG M P n N R X ops k0 L Γ w :=
  aL i t v (fun w' hx=>evalL_run _ _ _ _ he (fun q a u ha hu=>parts_cells (fun x hx2=>(s.st.own x hx2).mo hx (by rw[hM];exact List.not_mem_nil)) ps hp q a u ha hu)) H hc
theorem aCu (i t:Nat){f:FuncId}{args:Array Value}{Φ:Value→Hp→Prop}(c:Calls P f args w (Ret w h Φ))(H:∀ v w' h',Up w h w' h'→Φ v h'→AG M P n N R X ops k0 (L.setIfInBounds i true) ((t,v)::Γ) w')(hc:(chkK ops k0 L i && knownOp Γ (opAt ops i) && ((opAt ops i).dst == some t) && decide (t<n))=true:=by kernel_rfl)(hw:wantE ops Γ (opAt ops i)=some true:=by kernel_rfl)
    (hr:(execOp (ev Γ) (opAt ops i)).run P w=.ok (.enter f args) w:=by kernel_rfl):AG M P n N R X ops k0 L Γ w :=
  aC i t (c.mono fun e w' ⟨v,h',he,u,hΦ⟩=>⟨v,he,u.ext.mo M.l,H v w' h' u hΦ⟩) hc hw hr
theorem lClu (t j:Nat){f:FuncId}{args:Array Value}{Φ:Value→Prop}(s:SS w0 h0 w h B Rs F)(c:∀ hp,G w hp→AllF F hp→Seg hp (bxAt B j).b 0 (bxAt B j).vs→Calls P f args w (Ret w hp (fun v _=>Φ v)))(H:∀ v w' h',Up w h w' h'→SS w0 h0 w' h' B Rs F→Φ v→LG P n N R X ops (k+1) ((t,v)::Γ) w')(hj:decide (j<B.length)=true:=by kernel_rfl)(hc:cL ops Γ k t n=true:=by kernel_rfl)(hr:(execOp (ev Γ) (opAt ops k)).run P w=.ok (.enter f args) w:=by kernel_rfl):LG P n N R X ops k Γ w :=
  lCu t (s.lends (oT hj) c) (fun v w' h' u hΦ=>H v w' h' u (s.step u) hΦ) hc hr
theorem SS.lends2 (s:SS w0 h0 w h B Rs F){i j:Nat}(hi:i<B.length)(hj:j<B.length)(hne:i≠j){f:FuncId}{args:Array Value}{Φ:Value→Prop}(c:∀ hp,G w hp→AllF F hp→Seg hp (bxAt B i).b 0 (bxAt B i).vs→Seg hp (bxAt B j).b 0 (bxAt B j).vs→Calls P f args w (Ret w hp (fun v _=>Φ v))):Calls P f args w (Ret w h (fun v _=>Φ v)):=by
  have hm:=bxAt_mem hi
  have hm2:=bxAt_mem hj
  have hb:(bxAt B j).b≠(bxAt B i).b:=bx_ne s.st (decide_eq_true hj) (decide_eq_true hi) (by simpa using hne.symm)
  obtain ⟨hp,g,gw,sg,ho⟩:=lend s.g (s.st.jk _ hm) (s.st.own _ hm)
  have hj2:hp[(bxAt B j).b]?=some junk:=by rw[ho _ hb];exact s.st.jk _ hm2
  obtain ⟨hp2,g2,gw2,sg2,ho2⟩:=lend g hj2 (s.st.own _ hm2)
  refine (c hp2 g2 ((s.f.gw s.mo gw).gw s.mo gw2) (sg.gw gw2) sg2).mono ?_
  rintro e w' ⟨v,h',he,u,hΦ⟩
  obtain ⟨h1,u1⟩:=unlend hj2 ho2 (g.sz g2) u
  obtain ⟨h2,u2⟩:=unlend (s.st.jk _ hm) ho (s.g.sz g) u1
  exact ⟨v,h2,he,u2,hΦ⟩
theorem lCl2 (t i j:Nat){f:FuncId}{args:Array Value}{Φ:Value→Prop}(s:SS w0 h0 w h B Rs F)(c:∀ hp,G w hp→AllF F hp→Seg hp (bxAt B i).b 0 (bxAt B i).vs→Seg hp (bxAt B j).b 0 (bxAt B j).vs→Calls P f args w (Ret w hp (fun v _=>Φ v)))(H:∀ v w' h',SS w0 h0 w' h' B Rs F→Φ v→LG P n N R X ops (k+1) ((t,v)::Γ) w')(hij:(decide (i<B.length) && decide (j<B.length) && (i != j))=true:=by kernel_rfl)(hc:cL ops Γ k t n=true:=by kernel_rfl)(hr:(execOp (ev Γ) (opAt ops k)).run P w=.ok (.enter f args) w:=by kernel_rfl):LG P n N R X ops k Γ w:=by
  simp only[Bool.and_eq_true,decide_eq_true_eq,bne_iff_ne,ne_eq] at hij
  exact lC t s (s.lends2 hij.1.1 hij.1.2 hij.2 c) H hc hr
theorem unlendM {w w':World}{h hp h':Hp}{b:Nat}{M:List Nat}(hj:h[b]?=some junk)(ho:∀ c,c≠b→hp[c]?=h[c]?)(hsz:hp.size=h.size)(u:UpM M w hp w' h'):∃ h'',UpM M w h w' h''∧(∀ c,c≠b→h''[c]?=h'[c]?):=by
  have hlt:=lt_of_some hj
  have hlt':b<h'.size:=Nat.lt_of_lt_of_le oM u.gr.size
  refine ⟨h'.setIfInBounds b junk,⟨u.mo,⟨by simp;rw[←hsz];exact u.gr.size,fun c hc=>?_⟩,⟨by simp;exact u.g.size,fun c=>?_⟩⟩,fun c hc=>Array.getElem?_setIfInBounds_ne (Ne.symm hc)⟩
  · by_cases e:b=c
    · subst e;rw[Array.getElem?_setIfInBounds_self_of_lt hlt',hj]
    · rw[Array.getElem?_setIfInBounds_ne e,u.gr.blk c oM,ho c (Ne.symm e)]
  · by_cases e:b=c
    · subst e;right;rw[Array.getElem?_setIfInBounds_self_of_lt hlt']
    · rw[Array.getElem?_setIfInBounds_ne e];exact u.g.blk c
theorem lCml (t i j:Nat){f:FuncId}{args:Array Value}{Φ:Value→World→Prop}(s:SS w0 h0 w h B Rs F)(c:∀ hp,G w hp→AllF F hp→hp[(bxAt B i).b]?=some junk→Seg hp (bxAt B j).b 0 (bxAt B j).vs→Calls P f args w (RetM (bxAt B i).b w hp (fun v w' _=>Φ v w')))(H:∀ v w' h',UpM [(bxAt B i).b] w h w' h'→Φ v w'→LG P n N R X ops (k+1) ((t,v)::Γ) w')(hij:(decide (i<B.length) && decide (j<B.length) && (i != j))=true:=by kernel_rfl)(hc:cL ops Γ k t n=true:=by kernel_rfl)(hr:(execOp (ev Γ) (opAt ops k)).run P w=.ok (.enter f args) w:=by kernel_rfl):LG P n N R X ops k Γ w:=by
  simp only[Bool.and_eq_true,decide_eq_true_eq,bne_iff_ne,ne_eq] at hij
  have hm:=bxAt_mem hij.1.2
  have hb:(bxAt B i).b≠(bxAt B j).b:=bx_ne s.st (decide_eq_true hij.1.1) (decide_eq_true hij.1.2) (by simpa using hij.2)
  obtain ⟨hp,g,gw,sg,ho⟩:=lend s.g (s.st.jk _ hm) (s.st.own _ hm)
  refine lCm (rb:=(bxAt B i).b) (Φ:=fun v w' _=>Φ v w') (h:=h) t ((c hp g (s.f.gw s.mo gw) (by rw[ho _ hb];exact s.st.jk _ (bxAt_mem hij.1.1)) sg).mono ?_) (fun v w' h' u hΦ=>H v w' h' u hΦ) hc hr
  rintro e w' ⟨v,h',he,u,hΦ⟩
  obtain ⟨h'',u',_⟩:=unlendM (s.st.jk _ hm) ho (s.g.sz g) u
  exact ⟨v,h'',he,u',hΦ⟩
theorem lCp {α:Type}(t j:Nat)(x y:Operand)(tt e:TypeId)(f:α→List Value)(d:α)(A:Option Addr)(l2:List α)(m m2 c dc:Nat)(s:SS w0 h0 w h B Rs F)(so:SlO 1 f d h A l2)(hm2:l2.length=m2)(hmm:m2=m)(hpos:0<m)(hlen:(bxAt B j).vs.length=m)
    (H:∀ w',SS w0 h0 w' h (setV B j (l2.flatMap f)) Rs F→LG P n N R X ops (k+1) ((t,.int .i64 (m:Nat))::Γ) w')(hm47:m≤1099511627776:=by omega)(hc:cL ops Γ k t n=true:=by kernel_rfl)(hj:decide (j<B.length)=true:=by kernel_rfl)
    (hf:∀ x,(f x).length=1:=by intro _;rfl)(h1:∀ x,(f x).all (·.oneCell')=true:=by intro _;kernel_rfl)(ho:(opAt ops k).op=.call { callee:=.builtin .copy,args:=#[x,y],argTypes:=#[tt,tt] }:=by kernel_rfl)(hx:ev Γ x=.slice (some ⟨(bxAt B j).b,0,none⟩) m dc:=by kernel_rfl)(hy:ev Γ y=.slice A m2 c:=by kernel_rfl)
    (hu:P.underlying tt=some (.slice e):=by kernel_rfl)(hi:(P.info? e).map (·.size)=some 1:=by kernel_rfl):LG P n N R X ops k Γ w:=by
  subst hmm
  have hm:=hm2
  have hj':=oT hj
  have hown:=s.st.own _ (bxAt_mem hj')
  have hl:(l2.flatMap f).length=m2:=by rw[len_flat hf,hm];omega
  rw[so.ok oM] at hy
  have hrun:=run_copy_row (P:=P) w tt tt (opAt ops k).type e (bxAt B j).b 0 m2 dc ⟨aB A,aO A,none⟩ m2 c (bxAt B j).vs.toArray (bxAt B j).t (l2.flatMap f) hu hi hown (by rw[hl];exact (Nat.min_self m2).symm) (seg_newsO s.g (so.flat hf)) (by rw[hl];simp[hlen]) (fun u hu=>by
    obtain ⟨a,_,ha⟩:=List.mem_flatMap.1 hu
    exact (List.all_eq_true.1 (h1 a)) u ha)
  have e1:((bxAt B j).vs.toArray.toList.take 0++l2.flatMap f++(bxAt B j).vs.toArray.toList.drop (0+(l2.flatMap f).length)).toArray=(l2.flatMap f).toArray:=by
    rw[hl];simp[List.drop_eq_nil_of_le,hlen]
  rw[e1,hl] at hrun
  have p:Put (bxAt B j).b w (w.setRow (bxAt B j).b (l2.flatMap f).toArray):=⟨rfl,rfl,rfl,by simp,fun c hc=>setRow_other _ _ _ _ hc⟩
  have ho':Own (w.setRow (bxAt B j).b (l2.flatMap f).toArray) (bxAt B j).b (bxAt B j).t (putAt (bxAt B j).vs 0 (l2.flatMap f)):=by
    have e2:putAt (bxAt B j).vs 0 (l2.flatMap f)=l2.flatMap f:=by
      have:=putAt_pre (l2.flatMap f) (bxAt B j).vs [] (by rw[hlen,hl])
      simpa using this
    rw[e2]
    exact setRow_heap _ _ _ _ _ _ hown
  have s':=s.st.put s.g0 hj' p ho'
  have e2:putAt (bxAt B j).vs 0 (l2.flatMap f)=l2.flatMap f:=by
    have:=putAt_pre (l2.flatMap f) (bxAt B j).vs [] (by rw[hlen,hl])
    simpa using this
  unfold setB at s'
  rw[e2] at s'
  refine LG.val t _ _ (cL_1 hc).1 (cL_1 hc).2 ?_ (H _ (s.put0 hj' p s' (setV_b hj')))
  unfold execOp
  have e3:goInt m2=.int .i64 (m2:Nat):=rfl
  rw[e3] at hrun
  simp only[ho,resolve,invoke,builtin,Sem.run_bind,Sem.run_pure,Result.andThen_ok,List.map_toArray,List.map_cons,List.map_nil,hx,hy,hrun]
theorem anyR_firstZ {Q:Exit→Act→World→Prop}{i:Nat}{oi:Oper}{v:Value}{S:World→Prop}(hi:ops[i]?=some oi)(hsel:∀ (j:Nat) (o:Oper) cs b,ops[j]?=some o→o.op≠.select cs b)
    (hQ:∀ c a w,Q (.panic c) (a.put oi.dst v) w→Q (.panic c) a w)(hcl:∀ w w',S w→Tl M w w'→S w') :
    ∀ (n:Nat) (L:Array Bool) (a:Act) (w:World),
      (∀ j oj,ops[j]?=some oj→j≠i→L.getD j true=false→(∀ e∈oj.after,Region.binds .any e=true→e.on≠i)→oi.apart ops oj=true) →
      i∈Region.ready .any ops L→YieldsIf P ops S oi v a→S w→anyR M P ops Q 0 n (L.setIfInBounds i true) (a.put oi.dst v) w→anyR M P ops Q 0 (n+1) L a w:=by
  intro n
  induction n with
  | zero =>
    intro L a w _ hr hy hS H
    refine ⟨fun h=>(by rw[h] at hr;cases hr),fun j hj=>?_⟩
    by_cases hji:j=i
    · subst hji;exact hy.wpOp hi hS ⟨Rl.refl _ _ _ _,H⟩
    · have:=ready_mono hj hji
      rw[H.1] at this
      cases this
  | succ n ih =>
    intro L a w hfree hr hy hS H
    refine ⟨fun h=>(by rw[h] at hr;cases hr),fun j hj=>?_⟩
    by_cases hji:j=i
    · subst hji;exact hy.wpOp hi hS ⟨Rl.refl _ _ _ _,H⟩
    · have h1:=H.2 j (ready_mono hj hji)
      obtain ⟨hjun,oj,hoj,hall⟩:=mem_ready.1 hj
      have hnot:∀ e∈oj.after,Region.binds .any e=true→e.on≠i:=fun e he hb heq=>by
        have h1:=hall e he hb
        have h0:=(mem_ready.1 hr).1
        rw[heq] at h1
        obtain ⟨hl,h0'⟩:=unl h0
        simp[Array.getD,hl,h0'] at h1
      have h2:=wpOp_putIf hoj (hfree j oj hoj hji hjun hnot) (fun cs b=>hsel i oi cs b hi) (fun cs b=>hsel j oj cs b hoj) hQ hy h1
      have hfree':∀ k ok,ops[k]?=some ok→k≠i→(L.setIfInBounds j true).getD k true=false →
          (∀ e∈ok.after,Region.binds .any e=true→e.on≠i)→oi.apart ops ok=true:=fun k ok hk hki hun hno=>by
        refine hfree k ok hk hki ?_ hno
        by_cases hjk:j=k
        · subst hjk;exact hjun
        · rw[getD_set_ne true hjk] at hun;exact hun
      refine wpOp_mono (fun a' w' h3=>⟨h3.2.1,ih (L.setIfInBounds j true) a' w' hfree' (ready_mono hr (Ne.symm hji)) h3.1 (hcl _ _ hS (h3.2.1.2 (Nat.zero_le _))) ?_⟩) h2
      rw[Array.setIfInBounds_comm _ _ hji]
      exact h3.2.2
def chkZ (n:Nat)(ops:Array Oper)(L:Array Bool)(Γ:Env)(i t:Nat):Bool :=
  decide (i<ops.size) && Region.noSelect ops && Region.free .any ops L i && (Region.ready .any ops L).contains i && ((opAt ops i).dst == some t) && decide (t<n) && knownOp Γ (opAt ops i) && (wantE ops Γ (opAt ops i) == some true)
theorem zTake (i t:Nat)(v:Value){S:World→Prop}(hcl:∀ w w',S w→Tl M w w'→S w')(hS:S w)(hv:∀ w',S w'→(execOp (ev Γ) (opAt ops i)).run P w'=.ok (.value v) w')(H:AG M P n N R X ops 0 (L.setIfInBounds i true) ((t,v)::Γ) w)(hc:chkZ n ops L Γ i t=true):AG M P n N R X ops 0 L Γ w:=by
  unfold chkZ at hc
  simp only[Bool.and_eq_true,decide_eq_true_eq,beq_iff_eq] at hc
  obtain ⟨⟨⟨⟨⟨⟨⟨h1,h2⟩,h3⟩,h4⟩,h5⟩,h6⟩,h7⟩,h8⟩:=hc
  have hr:i∈Region.ready .any ops L:=by simpa using h4
  have hg:=opAt_get (ops:=ops) h1
  intro a ka
  have e1:=ka.exec (Region.noSelect_spec h2 i _ · · hg) h7
  have HA:=H _ (ka.put h6 v)
  unfold A at *
  rw[rem_ready hr]
  refine anyR_firstZ (S:=S) hg (Region.noSelect_spec h2) (fun c a w hq=>hq.elim) hcl _ _ _ _ (fun j oj hj hji hun=>Region.free_spec hg h3 j oj hj hji hun) hr (.inl ⟨ka.want h8,fun w' hs'=>by rw[e1];exact hv w' hs'⟩) hS ?_
  rw[h5];exact HA
theorem zV (i t:Nat)(v:Value)(H:AG M P n N R X ops 0 (L.setIfInBounds i true) ((t,v)::Γ) w)(hc:chkZ n ops L Γ i t=true:=by kernel_rfl)(hv:∀ w,(execOp (ev Γ) (opAt ops i)).run P w=.ok (.value v) w:=by intro _;kernel_rfl):AG M P n N R X ops 0 L Γ w :=
  zTake i t v (S:=fun _=>True) (fun _ _ _ _=>trivial) trivial (fun w' _=>hv w') H hc
theorem zO {K:Nat}(i t:Nat)(ps:List (Nat × Nat × Nat))(v:Value)(hz:M.z=some (K,[]))(hK:K≤w.heap.size)(s:SS w0 h0 w h B Rs F)(hlt:∀ p∈ps,(bxAt B p.1).b<K)(H:AG M P n N R X ops 0 (L.setIfInBounds i true) ((t,v)::Γ) w)(hc:chkZ n ops L Γ i t=true:=by kernel_rfl)(hp:partsOk B ps=true:=by kernel_rfl)(he:evalL P (execOp (ev Γ) (opAt ops i)) (partsV B ps)=some (.value v,partsA B ps):=by kernel_rfl):AG M P n N R X ops 0 L Γ w :=
  zTake i t v (S:=fun w'=>K≤w'.heap.size∧∀ b,b<K→w'.heap[b]?=w.heap[b]?) (fun w1 w2 hs ht=>by
    obtain ⟨h1,h2⟩:=ht K [] hz
    exact ⟨Nat.le_trans hs.1 h1,fun b hb=>(h2 b hb List.not_mem_nil).trans (hs.2 b hb)⟩) ⟨hK,fun _ _=>rfl⟩ (fun w' hs=>evalL_run _ _ _ _ he (fun q a u ha hu=>by
    obtain ⟨p,hpm,hpa⟩:=partsA_mem ps q a ha
    have:=parts_cells (fun x hx=>s.st.own x hx) ps hp q a u ha hu
    rw[←this]
    unfold World.cell?
    rw[hs.2 _ (hpa▸hlt p hpm)])) H hc
theorem zC (i t:Nat){f:FuncId}{args:Array Value}(c:Calls P f args w fun e w'=>∃ v,e=.returned v∧Tl M w w'∧AG M P n N R X ops 0 (L.setIfInBounds i true) ((t,v)::Γ) w')(hc:(chkT ops 0 L i && knownOp Γ (opAt ops i) && ((opAt ops i).dst == some t) && decide (t<n))=true:=by kernel_rfl)(hw:wantE ops Γ (opAt ops i)=some true:=by kernel_rfl)
    (hr:(execOp (ev Γ) (opAt ops i)).run P w=.ok (.enter f args) w:=by kernel_rfl):AG M P n N R X ops 0 L Γ w:=by
  simp only[Bool.and_eq_true,decide_eq_true_eq,beq_iff_eq] at hc
  obtain ⟨⟨⟨h1,h2⟩,h3⟩,h4⟩:=hc
  obtain ⟨hg,hs⟩:=chkT_get h1
  intro a ka
  refine A.one h1 hg (R':=fun v w'=>Tl M w w'∧AG M P n N R X ops 0 (L.setIfInBounds i true) ((t,v)::Γ) w') ⟨ka.want hw,.inr (.inr ⟨f,args,?_,c⟩)⟩ (fun v w' hq=>hq.1) (fun v w' hq=>?_)
  · rw[ka.exec (Region.noSelect_spec hs i _ · · hg) h2];exact hr
  · rw[h3];exact hq.2 _ (ka.put h4 v)
theorem tl_ext {K:Nat}{w':World}(hz:M.z=some (K,[]))(hK:K≤w.heap.size)(x:Ext w w'):Tl M w w':=fun K' bs e=>by
  rw[hz] at e
  injection e with e;injection e with e1 e2
  subst e1 e2
  exact ⟨x.size,fun b hb _=>Below.block x b oM⟩
theorem tl_mo {K b:Nat}{w':World}(hz:M.z=some (K,[]))(hK:K≤w.heap.size)(hb:K≤b)(x:Mo [b] w w'):Tl M w w':=fun K' bs e=>by
  rw[hz] at e
  injection e with e;injection e with e1 e2
  subst e1 e2
  exact ⟨x.size,fun c hc _=>x.blk c oM (by simp;omega)⟩
theorem zCu {K:Nat}(i t:Nat){f:FuncId}{args:Array Value}{Φ:Value→Hp→Prop}(c:Calls P f args w (Ret w h Φ))(hz:M.z=some (K,[]))(hK:K≤w.heap.size)(H:∀ v w' h',Up w h w' h'→K≤w'.heap.size→Φ v h'→AG M P n N R X ops 0 (L.setIfInBounds i true) ((t,v)::Γ) w')(hc:(chkT ops 0 L i && knownOp Γ (opAt ops i) && ((opAt ops i).dst == some t) && decide (t<n))=true:=by kernel_rfl)(hw:wantE ops Γ (opAt ops i)=some true:=by kernel_rfl)
    (hr:(execOp (ev Γ) (opAt ops i)).run P w=.ok (.enter f args) w:=by kernel_rfl):AG M P n N R X ops 0 L Γ w :=
  zC i t (c.mono fun e w' ⟨v,h',he,u,hΦ⟩=>⟨v,he,tl_ext hz hK u.ext,H v w' h' u (Nat.le_trans hK u.ext.size) hΦ⟩) hc hw hr
theorem zCm {K rb:Nat}(i t:Nat){f:FuncId}{args:Array Value}{Φ:Value→World→Hp→Prop}(c:Calls P f args w (RetM rb w h Φ))(hz:M.z=some (K,[]))(hK:K≤w.heap.size)(hrb:K≤rb)(H:∀ v w' h',UpM [rb] w h w' h'→K≤w'.heap.size→Φ v w' h'→AG M P n N R X ops 0 (L.setIfInBounds i true) ((t,v)::Γ) w')(hc:(chkT ops 0 L i && knownOp Γ (opAt ops i) && ((opAt ops i).dst == some t) && decide (t<n))=true:=by kernel_rfl)(hw:wantE ops Γ (opAt ops i)=some true:=by kernel_rfl)
    (hr:(execOp (ev Γ) (opAt ops i)).run P w=.ok (.enter f args) w:=by kernel_rfl):AG M P n N R X ops 0 L Γ w :=
  zC i t (c.mono fun e w' ⟨v,h',he,u,hΦ⟩=>⟨v,he,tl_mo hz hK hrb u.mo,H v w' h' u (Nat.le_trans hK u.mo.size) hΦ⟩) hc hw hr
theorem zblk (s:SS w0 h0 w h B Rs F)(j:Nat)(hj:decide (j<B.length)=true:=by kernel_rfl):(bxAt B j).b<w.heap.size:=by rw[s.g.size];exact lt_of_some (s.jk j hj)
theorem lXo (t b o len cap sz:Nat)(i:Int)(j e:Nat)(H:LG P n N R X ops (k+1) ((t,.pointer (some ⟨b,0+e*sz,none⟩))::Γ) w)(hc:cL ops Γ k t n=true:=by kernel_rfl)(he:ixE P (ev Γ) (opAt ops k)=some (.slice (some ⟨b,o,none⟩) len cap,.int .i64 i,sz):=by kernel_rfl)(hk:i=j:=by omega)(hlt:j<len:=by omega)(hoe:o+j*sz=0+e*sz:=by omega):LG P n N R X ops k Γ w :=
  LG.val t _ w (cL_1 hc).1 (cL_1 hc).2 (hoe▸ixE_run he rfl hk hlt w) H
theorem aXo (i t b o len cap sz:Nat)(x:Int)(j e:Nat)(H:AG M P n N R X ops k0 (L.setIfInBounds i true) ((t,.pointer (some ⟨b,0+e*sz,none⟩))::Γ) w)(hc:cE n ops k0 [] L Γ i t=true:=by kernel_rfl)(he:ixE P (ev Γ) (opAt ops i)=some (.slice (some ⟨b,o,none⟩) len cap,.int .i64 x,sz):=by kernel_rfl)(hk:x=j:=by omega)(hlt:j<len:=by omega)(hoe:o+j*sz=0+e*sz:=by omega):AG M P n N R X ops k0 L Γ w :=
  aV i t _ H hc (fun w=>hoe▸ixE_run he rfl hk hlt w)
theorem tXo (i t b o len cap sz:Nat)(x:Int)(j e:Nat)(H:AG M P n N R X ops k0 (L.setIfInBounds i true) ((t,.pointer (some ⟨b,0+e*sz,none⟩))::Γ) w)(hc:cT n ops k0 L Γ i t=true:=by kernel_rfl)(he:ixE P (ev Γ) (opAt ops i)=some (.slice (some ⟨b,o,none⟩) len cap,.int .i64 x,sz):=by kernel_rfl)(hk:x=j:=by omega)(hlt:j<len:=by omega)(hoe:o+j*sz=0+e*sz:=by omega):AG M P n N R X ops k0 L Γ w :=
  T.val i t _ w (cT_1 hc).1 (cT_1 hc).2 (hoe▸ixE_run he rfl hk hlt w) H
theorem lFo (t b o len cap sz:Nat)(i:Int)(j o2:Nat)(H:LG P n N R X ops (k+1) ((t,.slice (some ⟨b,o2,none⟩) (len-j) (cap-j))::Γ) w)(hc:cL ops Γ k t n=true:=by kernel_rfl)(he:slE P (ev Γ) (opAt ops k)=some (.slice (some ⟨b,o,none⟩) len cap,some (.int .i64 i),none,sz):=by kernel_rfl)(hk:i=j:=by omega)(hlt:j≤len:=by omega)(hne:cap≠j:=by omega)(hoe:o2=o+j*sz:=by omega):LG P n N R X ops k Γ w:=by
  have h:=slE_from j he hk hlt w
  rw[if_neg hne] at h
  have e:(some (⟨b,o,none⟩:Addr)).map (·.add (j*sz))=some ⟨b,o2,none⟩:=by subst hoe;simp[Addr.add]
  rw[e] at h
  exact LG.val t _ w (cL_1 hc).1 (cL_1 hc).2 h H
theorem SS.torow {α:Type}(s:SS w0 h0 w h B Rs F)(j:Nat)(f:α→List Value)(l:List α)(sz m:Nat)(hm:l.length=m)(hlen:m≤1099511627776)(hB:(bxAt B j).vs=l.flatMap f:=by kernel_rfl)(hf:∀ x,(f x).length=sz:=by intro _;rfl)(hj:decide (j<B.length)=true:=by kernel_rfl) :
    SS w0 h0 w h (B.eraseIdx j) (⟨(bxAt B j).t,sz,some ⟨(bxAt B j).b,0,none⟩,m,m,l.flatMap f⟩::Rs) F:=by
  have hj':=oT hj
  have hm0:=bxAt_mem hj'
  have ho:=s.st.own _ hm0
  have hne:∀ x∈B.eraseIdx j,x.b≠(bxAt B j).b:=by
    intro x hx hb
    obtain ⟨i,hi,he⟩:=List.mem_iff_getElem.1 hx
    rw[List.getElem_eraseIdx] at he
    rw[List.length_eraseIdx_of_lt hj'] at hi
    split at he
    · rename_i hl
      refine bx_ne s.st (i:=i) (j:=j) (decide_eq_true oM) hj (by simp;omega) ?_
      rw[←hb,←he];simp[bxAt,show i<B.length by omega]
    · rename_i hl
      refine bx_ne s.st (i:=i+1) (j:=j) (decide_eq_true oM) hj (by simp;omega) ?_
      rw[←hb,←he];simp[bxAt,show i+1<B.length by omega]
  refine ⟨s.g0,⟨s.st.up,fun x hx=>s.st.own x (List.mem_of_mem_eraseIdx hx),fun x hx=>s.st.jk x (List.mem_of_mem_eraseIdx hx),fun x hx=>s.st.lo x (List.mem_of_mem_eraseIdx hx),s.st.nd.sublist ((List.eraseIdx_sublist B j).map (·.b))⟩,?_,?_,s.mo,s.f⟩
  · intro r hr
    rcases List.mem_cons.1 hr with rfl|hr
    · refine ⟨⟨by rw[len_flat hf,hm],.inr ⟨(bxAt B j).b,m,(bxAt B j).vs.toArray,rfl,s.st.lo _ hm0,ho,Nat.le_refl _,by unfold maxLen;omega,by rw[hB];simp[len_flat hf,hm],by rw[hB];simp[List.take_of_length_le,len_flat hf,hm]⟩⟩,?_,?_⟩
      · intro b hb
        have:(bxAt B j).b=b:=by simpa [Rw.v,Value.ownBlock] using hb
        rw[←this];exact s.st.jk _ hm0
      · intro b hb hmem
        have:(bxAt B j).b=b:=by simpa [Rw.v,Value.ownBlock] using hb
        obtain ⟨x,hx,e⟩:=List.mem_map.1 hmem
        exact hne x hx (e.trans this.symm)
    · exact (s.ro r hr).sub _ (fun b hb=>by
        obtain ⟨x,hx,e⟩:=List.mem_map.1 hb
        exact List.mem_map.2 ⟨x,List.mem_of_mem_eraseIdx hx,e⟩)
  · refine List.pairwise_cons.2 ⟨fun r hr b hb hv=>?_,s.ap⟩
    have:(bxAt B j).b=b:=by simpa [Rw.v,Value.ownBlock] using hb
    exact (s.ro r hr).ap b hv (this▸List.mem_map.2 ⟨_,hm0,rfl⟩)
theorem lYe {α:Type}(t j m b2:Nat)(l:List α)(f:α→List Value)(d x:α)(bt:Nat)(z:Value)(s:SS w0 h0 w h B Rs F)(sg:Seg h b2 0 (f x))(hm:l.length=m)(hlen:m≤1000000000)
    (H:∀ A' c' w' h',SS w0 h0 w' h' (B.eraseIdx j) Rs ((fun h=>SlO 1 f d h A' (l++[x]))::F)→m+1≤c'→LG P n N R X ops (k+1) ((t,.slice A' (m+1) c')::Γ) w')(hc:cL ops Γ k t n=true:=by kernel_rfl)(hj:decide (j<B.length)=true:=by kernel_rfl)(hB:(bxAt B j).vs=l.flatMap f:=by kernel_rfl)
    (he:apE P (ev Γ) (opAt ops k)=some (.slice (some ⟨(bxAt B j).b,0,none⟩) m m,.slice (some ⟨b2,0,none⟩) 1 1,(bxAt B j).t,z,1,bt):=by kernel_rfl)(hzs:z.cells.size=1:=by kernel_rfl)(hf:∀ x,(f x).length=1:=by intro _;rfl)(h1:(f x).all (·.oneCell')=true:=by kernel_rfl)(hbt:bt≤100:=by decide):LG P n N R X ops k Γ w:=by
  have s1:=s.torow j f l 1 m hm oM hB hf hj
  refine lYn t 0 (f x) s1 (seg_news s1.g sg) (hf x) (fun u hu=>(List.all_eq_true.1 h1) u hu) (by simp) rfl hc he hzs kD oM (by
    have:(m+1)*bt≤(m+1)*100:=Nat.mul_le_mul_left _ hbt
    omega) (fun A' c' w' h' s'=>?_)
  have e1:m+1=(l++[x]).length:=by simp[hm]
  have e2:l.flatMap f++f x=(l++[x]).flatMap f:=by simp
  rw[e2,List.set_cons_zero] at s'
  have s2:SS w0 h0 w' h' (B.eraseIdx j) (⟨(bxAt B j).t,1,A',c',(l++[x]).length,(l++[x]).flatMap f⟩::Rs) F:=by rw[←e1];exact s'
  obtain ⟨h'',s3,hc'⟩:=s2.pubr 0 d hf rfl (by simp)
  exact H A' c' w' h'' s3 (by rw[e1];exact hc')
theorem SS.perm (s:SS w0 h0 w h B Rs F){B':List Bx}(p:B.Perm B'):SS w0 h0 w h B' Rs F :=
  ⟨s.g0,⟨s.st.up,fun x hx=>s.st.own x (p.mem_iff.2 hx),fun x hx=>s.st.jk x (p.mem_iff.2 hx),fun x hx=>s.st.lo x (p.mem_iff.2 hx),(p.map (·.b)).nodup_iff.1 s.st.nd⟩,
    fun r hr=>(s.ro r hr).sub _ (fun b hb=>(p.map (·.b)).mem_iff.2 hb),s.ap,s.mo,s.f⟩
end
theorem rNatShift (a:Nat)(A:Option Addr)(c:Nat)(hc:(lim a).length≤c)(hLa:(lim a).length≤4000000000)(k:Nat)(hk:k≤4000000000)(w:World)(h:Hp)(g:G w h)(hA:SlO 1 u32c 0 h A (lim a)) :
    Calls Tryz.prog 147 #[.slice A ((lim a).length) c,.int .i64 (k:Nat)] w (Ret w h fun v h1=>RN h1 v (a*2^k)):=by
 have hs:=SS.start g
 replace hs:=(hs.a_SlO hA)
 obtain ⟨L,hL⟩:∃ L:List Nat,L=List.replicate (k/32) 0:=⟨_,rfl⟩
 have hLl:L.length=k/32:=by rw[hL,List.length_replicate]
 refine go Tryz.func147 [(0,.slice A ((lim a).length) c),(1,.int .i64 (k:Nat))] rfl ?_
 refine cSL (lL hs [.v 4 (.slice none 0 0)] (lN (CG.seq (cSL (lL hs [.m 11 1] ?_)))))
 have ⟨hb1,phb1⟩:=dT (p:=(0:Int)≤((k:Nat):Int)) oM
 refine lB 12 hb1 ?_
 refine lN (cIT (cSL (lL hs [.m 13 1] (lV 14 (.int .i64 (L.length:Nat)) ?_ (hr:=rint (rint (opQuo (t:=3) (u:=3) (x:=.tmp 13) (y:=.const (.int .i64 32)) (k:=.i64) (a:=((k:Nat):Int)) (b:=(32:Int)) kR kR kR oM _) (quoI64 k 32 oM)) oM)))))
 refine lK 15 159 L.length 1 4 (.int .u32 0) u32c 0 hs (fun b2 w3 h4 hs=>?_)
 have hl5:(List.replicate L.length 0).length=L.length:=by simp
 refine lL hs [.m 5 15] (lNS (lL hs [.v 6 (.int .u64 0)] (lN (CG.seq (cSL ?_)))))
 rw[show List.replicate L.length 0=L by rw[hLl];exact hL.symm] at hs
 replace hs:=hs.torow 0 u32c L 1 L.length rfl oM
 replace hs:=hs.to [] [⟨159,1,some ⟨b2,0,none⟩,L.length,(L).length,(L).flatMap u32c⟩]
 refine lL hs [.v 7 (.int .i64 0)] (lN (CG.block (cTo [(0,.slice A ((lim a).length) c),(1,.int .i64 (k:Nat)),(4,.slice none 0 0),(7,.int .i64 0),(6,.int .u64 0),(5,.slice (some ⟨b2,0,none⟩) ((L).length) L.length)] ?_)))
 refine CG.loop (fun μ_ Γ w_=>∃ (i:Nat) (sA:Option Addr) (sc:Nat) (l:List Nat) (cy:Nat) (h_:Hp),μ_=(lim a).length+1-i∧Γ=[(0,.slice A ((lim a).length) c),(1,.int .i64 (k:Nat)),(4,.slice none 0 0),(7,.int .i64 (i:Nat)),(6,.int .u64 (cy:Nat)),(5,.slice sA ((l).length) sc)]∧SS w h w_ h_ [] [⟨159,1,sA,sc,(l).length,(l).flatMap u32c⟩] [fun h_=>SlO 1 u32c 0 h_ A (lim a)]∧(i≤(lim a).length+1)∧(l.length=L.length+i)∧(Ld l)∧(cy<2^(k%32))∧(bval 4294967296 l+4294967296^l.length*cy=4294967296^L.length*(2^(k%32)*bval 4294967296 ((lim a).take i)))) _ ⟨0,some ⟨b2,0,none⟩,L.length,L,0,h4,rfl,rfl,hs.to _ _,Nat.zero_le _,rfl,(by rw[hL];exact Ld.rep _),Nat.two_pow_pos _,(by rw[hL,bval_rep];simp[bval])⟩ ?_
 rintro _ _ w6 ⟨i,sA,sc,l,cy,h7,hm8,rfl,hs,hi,hll,hW,hcy,inv⟩
 have hai:=(Ld.lim a).get i
 refine CG.seq (cSL (lL hs [.m 16 7,.m 17 0,.v 18 (.int .i64 ((lim a).length:Nat))] ?_))
 cases hb9:(decide (((i:Nat):Int)≤(((lim a).length:Nat):Int)))
 ·
  have phb9:=oF hb9
  refine lB 19 hb9 ?_
  refine lN (cIF (CG.exit ?_))
  show CG _ _ _ _ _ _ _ _
  refine cSL (lL hs [.m 38 5] ?_)
  have hin:i=(lim a).length+1:=by omega
  rw[List.take_of_length_le (show (lim a).length≤i by omega),bval_lim,hll] at inv
  have hE:bval 4294967296 l=a*2^k:=put_end (c:=cy) (by rw[hll,inv,pow32 k,hLl];ac_rfl) (by rw[hll,pow32 k];exact shift_fit (lim_lt_pow a) oM oM)
  obtain ⟨h10,hs,hc11⟩:=hs.pubr 0 (A:=sA) (c:=sc) (l:=l) (f:=u32c) (ty:=159) (sz:=1) 0 (fun _=>rfl)
  refine lC 39 hs (rTrim sA sc l ((l).length) rfl oM hc11 _ _ hs.g (hs.f.1)) ?_
  rintro _ w13 h14 hs rfl
  exact lL hs [.m 4 39] (lN (CG.ret (hs.ret [] (.slice sA (tl l ((l).length)) sc) (RN.trim hW hE rfl hc11 (hs.f.1)))))
 have phb9:=oT hb9
 refine lB 19 hb9 ?_
 refine lN (cIT (CG.skipN (CG.seq (CG.block (cSL (lL hs [.m 22 6,.m 23 0,.m 24 7] (lC 25 hs (rAt A c (lim a) ((lim a).length) rfl i oM (Ld.lim _) _ _ hs.g (hs.f.1)) ?_)))))))
 rintro _ w15 h16 hs rfl
 refine lL hs [.m 26 1] (lV 27 (.int .i64 (k%32:Nat)) ?_ (hr:=rint (opRem (t:=3) (u:=3) (x:=.tmp 26) (y:=.const (.int .i64 32)) (k:=.i64) (a:=((k:Nat):Int)) (b:=(32:Int)) kR kR kR oM _) (tmodNat k 32)))
 refine lV 28 (.int .u64 (k%32:Nat)) ?_ (hr:=rint (n:=IntKind.wrap .u64 ((k%32:Nat):Int)) kR (fitU64 oM oM))
 refine lV 29 (.int .u64 (((lim a).getD i 0)*2^(k%32)%18446744073709551616:Nat)) ?_ (hr:=opShlN (t:=50) (u:=160) (x:=.tmp 25) (y:=.tmp 28) (ky:=.u64) (a:=((lim a).getD i 0)) (n:=(k%32)) kR kR kR _)
 obtain ⟨hS1,hS2,hS3⟩:=shl32 (x:=(lim a).getD i 0) (p:=k%32) (c:=cy) oM hai hcy
 refine lV 30 (.int .u64 (cy+(lim a).getD i 0*2^(k%32):Nat)) ?_ (hr:=rint (opOr (t:=50) (u:=50) (x:=.tmp 22) (y:=.tmp 29) (a:=cy) (b:=(((lim a).getD i 0)*2^(k%32)%18446744073709551616:Nat)) kR kR kR oM oM _) (by rw[hS1]))
 refine lL hs [.m 6 30] (lNS (lL hs [.m 31 5,.m 32 6] (lV 33 (.int .u32 ((cy+(lim a).getD i 0*2^(k%32))%4294967296:Nat)) ?_ (hr:=rint (n:=IntKind.wrap .u32 ((cy+(lim a).getD i 0*2^(k%32):Nat):Int)) kR (wrU32 _)))))
 refine lR 34 159 1 ([.int .u32 ((cy+(lim a).getD i 0*2^(k%32))%4294967296:Nat)]) hs (fun b17 w18 h19 hs=>?_)
 refine lY 35 0 159 1 sc sA l u32c ((cy+(lim a).getD i 0*2^(k%32))%4294967296:Nat) 4 b17 (.int .u32 0) hs (hs.f.1) (fun A21 c22 w23 h24 hs=>?_)
 refine lL hs [.m 5 35] (lN (CG.listed (lL hs [.m 36 6] (lV 37 (.int .u64 ((cy+(lim a).getD i 0*2^(k%32))/4294967296:Nat)) ?_ (hr:=rint (n:=Int.fdiv ((cy+(lim a).getD i 0*2^(k%32):Nat):Int) 4294967296) kR (fdivNat _ 4294967296))))))
 refine lL hs [.m 6 37] (lN (CG.listed (lL hs [.m 20 7] (lIn 21 ((i:Nat)+1) (i+1) ?_))))
 refine lL hs [.m 7 21] (lD ?_)
 intro a_ ka
 have q26:(i+1)≤(lim a).length+1:=by omega
 have q27:(l++[((cy+(lim a).getD i 0*2^(k%32))%4294967296:Nat)]).length=L.length+(i+1):=(by rw[List.length_append,hll];rfl)
 have q28:Ld (l++[((cy+(lim a).getD i 0*2^(k%32))%4294967296:Nat)]):=(hW.app (Nat.mod_lt _ kD))
 have q29:((cy+(lim a).getD i 0*2^(k%32))/4294967296:Nat)<2^(k%32):=hS3
 have q30:bval 4294967296 (l++[((cy+(lim a).getD i 0*2^(k%32))%4294967296:Nat)])+4294967296^(l++[((cy+(lim a).getD i 0*2^(k%32))%4294967296:Nat)]).length*((cy+(lim a).getD i 0*2^(k%32))/4294967296:Nat)=4294967296^L.length*(2^(k%32)*bval 4294967296 ((lim a).take (i+1))):=(app_step kD inv hll rfl rfl)
 replace hs:=hs.tl
 refine ⟨_,_,?_,⟨i+1,A21,c22,l++[((cy+(lim a).getD i 0*2^(k%32))%4294967296:Nat)],((cy+(lim a).getD i 0*2^(k%32))/4294967296:Nat),h24,rfl,rfl,hs.to _ _,q26,q27,q28,q29,q30⟩,ka.to [(0,.slice A ((lim a).length) c),(1,.int .i64 (k:Nat)),(4,.slice none 0 0),(7,.int .i64 ((i+1):Nat)),(6,.int .u64 (((cy+(lim a).getD i 0*2^(k%32))/4294967296:Nat):Nat)),(5,.slice A21 (((l++[((cy+(lim a).getD i 0*2^(k%32))%4294967296:Nat)])).length) c22)] kR⟩
 omega
theorem rNatBits (a:Nat)(A:Option Addr)(c:Nat)(hc:(lim a).length≤c)(hLa:(lim a).length≤4000000000)(w:World)(h:Hp)(g:G w h)(hA:SlO 1 u32c 0 h A (lim a)) :
    Calls Tryz.prog 142 #[.slice A ((lim a).length) c] w (Ret w h fun v _=>v=.int .i64 (nb a:Nat)):=by
 have hs:=SS.start g
 replace hs:=(hs.a_SlO hA)
 have hpa:=@lim_pos a
 have hgl:=(Ld.lim a).get ((lim a).length-1)
 refine go Tryz.func142 [(0,.slice A ((lim a).length) c)] rfl ?_
 refine cSL (lL hs [.v 2 (.int .i64 0)] (lN (CG.seq (cSL (lL hs [.m 5 0,.v 6 (.int .i64 ((lim a).length:Nat))] ?_)))))
 cases hb1:((((lim a).length:Nat):Int) == (0:Int))
 ·
  have phb1:=neOfBeq hb1
  refine lB 7 hb1 ?_
  refine lN (cIF (CG.skipN (cSL (lL hs [.m 8 0,.v 9 (.int .i64 ((lim a).length:Nat))] (lIn 10 (((lim a).length:Nat)-1) (((lim a).length)-1) ?_)))))
  refine lIn 11 (32*(((lim a).length)-1:Nat)) (32*(((lim a).length)-1:Nat)) ?_
  refine lL hs [.m 3 11] (lN (CG.seq (cSL (lL hs [.m 12 0,.m 13 0,.v 14 (.int .i64 ((lim a).length:Nat))] (lI 15 (((lim a).length:Nat)-1) ?_)))))
  refine lX 16 A ((lim a).length) c 1 (((lim a).length:Nat)-1) (((lim a).length)-1) ((hs.f.1).ok oM) ?_
  refine lH 17 (.int .u32 ((lim a).getD (((lim a).length)-1) 0:Nat)) hs ((hs.f.1).el (((lim a).length)-1) oM) ?_
  refine lL hs [.m 4 17] (lN (CG.block (cTo [(2,.int .i64 0),(3,.int .i64 (32*(((lim a).length)-1:Nat):Nat)),(4,.int .u32 ((lim a).getD (((lim a).length)-1) 0:Nat))] ?_)))
  refine CG.loop (fun μ_ Γ w_=>∃ (n:Nat) (x:Nat) (h_:Hp),μ_=x∧Γ=[(2,.int .i64 0),(3,.int .i64 (n:Nat)),(4,.int .u32 (x:Nat))]∧SS w h w_ h_ [] [] [fun h_=>SlO 1 u32c 0 h_ A (lim a)]∧(n+nb x=nb a)∧(x<4294967296)∧(nb a≤128000000000)) _ ⟨32*((lim a).length-1),(lim a).getD ((lim a).length-1) 0,h,rfl,rfl,hs.to _ _,(nb_lim oM).symm,hgl,(by have:=nb_len a;omega)⟩ ?_
  rintro _ _ w2 ⟨n,x,h3,hm4,rfl,hs,hn,hx,hm⟩
  refine CG.seq (cSL (lL hs [.m 18 4] ?_))
  cases hb5:(decide ((0:Int)<((x:Nat):Int)))
  ·
   have phb5:=oF hb5
   refine lB 19 hb5 ?_
   refine lN (cIF (CG.exit ?_))
   show CG _ _ _ _ _ _ _ _
   exact cSL (lL hs [.m 24 3,.m 2 24] (lN (CG.ret (hs.ret [] (.int .i64 (n:Nat)) (by obtain rfl:x=0:=oM;rw[nb_zero] at hn;rw[←hn];rfl)))))
  have phb5:=oT hb5
  refine lB 19 hb5 ?_
  refine lN (cIT (CG.skipN (CG.seq (CG.block (CG.listed (lL hs [.m 22 3] (lIn 23 ((n:Nat)+1) (n+1) ?_)))))))
  refine lL hs [.m 3 23] (lN (CG.listed (lL hs [.m 20 4] (lV 21 (.int .u32 (x/2:Nat)) ?_ (hr:=rint (n:=Int.fdiv (x:Nat) 2) kR (fdivNat x 2))))))
  refine lL hs [.m 4 21] (lD ?_)
  intro a_ ka
  have q6:(n+1)+nb (x/2)=nb a:=(by have:=nb_half (n:=x) oM;omega)
  have q7:(x/2)<4294967296:=by omega
  have q8:nb a≤128000000000:=hm
  refine ⟨_,_,?_,⟨n+1,x/2,h3,rfl,rfl,hs.to _ _,q6,q7,q8⟩,ka.to [(2,.int .i64 0),(3,.int .i64 ((n+1):Nat)),(4,.int .u32 ((x/2):Nat))] kR⟩
  omega
 have phb1:=eq_of_beq hb1
 refine lB 7 hb1 ?_
 exact lN (cIT (cSL (lL hs [.v 2 (.int .i64 0)] (lN (CG.ret (hs.ret [] (.int .i64 0) (by obtain rfl:a=0:=oM;rfl)))))))
theorem rNatShiftD (a:Nat)(A:Option Addr)(c:Nat)(hc:(lim a).length≤c)(hLa:(lim a).length≤4000000000)(k:Nat)(hk0:0<k)(hk:k≤4000000000)(w:World)(h:Hp)(g:G w h)(hA:SlO 1 u32c 0 h A (lim a)) :
    Calls Tryz.prog 147 #[.slice A ((lim a).length) c,.int .i64 (-((k:Nat):Int))] w (Ret w h fun v h1=>RN h1 v (a/2^k)):=by
 have hs:=SS.start g
 replace hs:=(hs.a_SlO hA)
 refine go Tryz.func147 [(0,.slice A ((lim a).length) c),(1,.int .i64 (-((k:Nat):Int)))] rfl ?_
 refine cSL (lL hs [.v 4 (.slice none 0 0)] (lN (CG.seq (cSL (lL hs [.m 11 1] ?_)))))
 have ⟨hb1,phb1⟩:=dF (p:=(0:Int)≤((-((k:Nat):Int)):Int)) oM
 refine lB 12 hb1 ?_
 refine lN (cIF (CG.skipN (cSL (lL hs [.m 40 1] (lV 41 (.int .i64 (k:Nat)) ?_ (hr:=rint (n:=IntKind.wrap .i64 (0-(-((k:Nat):Int)))) kR (by rw[IntKind.wrap_i64];omega)))))))
 refine lL hs [.m 1 41] (lNS (lL hs [.v 8 (.slice none 0 0)] (lN (CG.seq (cSL (lL hs [.m 42 1] (lV 43 (.int .i64 (k/32:Nat)) ?_ (hr:=rint (opQuo (t:=3) (u:=3) (x:=.tmp 42) (y:=.const (.int .i64 32)) (k:=.i64) (a:=((k:Nat):Int)) (b:=(32:Int)) kR kR kR oM _) (quoI64 k 32 oM)))))))))
 refine lL hs [.m 9 43] (lN (CG.block ?_))
 replace hs:=hs.nil 159 1
 refine cTo [(0,.slice A ((lim a).length) c),(1,.int .i64 (k:Nat)),(4,.slice none 0 0),(9,.int .i64 (k/32:Nat)),(8,.slice none 0 0)] ?_
 refine CG.loop (fun μ_ Γ w_=>∃ (j:Nat) (sA:Option Addr) (sc:Nat) (l:List Nat) (h_:Hp),μ_=(lim a).length-(k/32+j)∧Γ=[(0,.slice A ((lim a).length) c),(1,.int .i64 (k:Nat)),(4,.slice none 0 0),(9,.int .i64 (k/32+j:Nat)),(8,.slice sA ((l).length) sc)]∧SS w h w_ h_ [] [⟨159,1,sA,sc,(l).length,(l).flatMap u32c⟩] [fun h_=>SlO 1 u32c 0 h_ A (lim a)]∧(l.length=j)∧(Ld l)∧(2^(k%32)*bval 4294967296 l+((lim a).drop (k/32)).getD 0 0%2^(k%32)=bval 4294967296 (((lim a).drop (k/32)).take j)+4294967296^j*(((lim a).drop (k/32)).getD j 0%2^(k%32)))∧(l.length≤(lim a).length)) _ ⟨0,none,0,[],h,rfl,rfl,hs.to _ _,rfl,Dg.nil,(by simp[bval]),(by simp)⟩ ?_
 rintro _ _ w2 ⟨j,sA,sc,l,h3,hm4,rfl,hs,hll,hW,inv,hjl⟩
 have hai:=(Ld.lim a).get (k/32+j)
 have haj:=(Ld.lim a).get (k/32+j+1)
 refine CG.seq (cSL (lL hs [.m 44 9,.m 45 0,.v 46 (.int .i64 ((lim a).length:Nat))] ?_))
 cases hb5:(decide (((k/32+j:Nat):Int)<(((lim a).length:Nat):Int)))
 ·
  have phb5:=oF hb5
  refine lB 47 hb5 ?_
  refine lN (cIF (CG.exit ?_))
  show CG _ _ _ _ _ _ _ _
  refine cSL (lL hs [.m 68 8] ?_)
  have hE:bval 4294967296 l=a/2^k:=dn_fin oM (by rw[hll];exact inv)
  obtain ⟨h6,hs,hc7⟩:=hs.pubr 0 (A:=sA) (c:=sc) (l:=l) (f:=u32c) (ty:=159) (sz:=1) 0 (fun _=>rfl)
  refine lC 69 hs (rTrim sA sc l ((l).length) rfl oM hc7 _ _ hs.g (hs.f.1)) ?_
  rintro _ w9 h10 hs rfl
  exact lL hs [.m 4 69] (lN (CG.ret (hs.ret [] (.slice sA (tl l ((l).length)) sc) (RN.trim hW hE rfl hc7 (hs.f.1)))))
 have phb5:=oT hb5
 refine lB 47 hb5 ?_
 refine lN (cIT (CG.skipN (CG.seq (CG.block (cSL (lL hs [.m 50 0,.m 51 9] (lC 52 hs (rAt A c (lim a) ((lim a).length) rfl (k/32+j) oM (Ld.lim _) _ _ hs.g (hs.f.1)) ?_)))))))
 rintro _ w11 h12 hs rfl
 refine lL hs [.m 53 0,.m 54 9] (lIn 55 ((k/32+j:Nat)+1) ((k/32+j)+1) ?_)
 refine lC 56 hs (rAt A c (lim a) ((lim a).length) rfl ((k/32+j)+1) oM (Ld.lim _) _ _ hs.g (hs.f.1)) ?_
 rintro _ w13 h14 hs rfl
 obtain ⟨hS1,hS2,hS3⟩:=shr32 (p:=k%32) oM hai haj
 have hdj:=getD_drop' (l:=lim a) (k:=j) (n:=k/32)
 have hdn:=getD_drop' (l:=lim a) (k:=j+1) (n:=k/32)
 refine lV 57 (.int .u64 (((lim a).getD ((k/32+j)+1) 0:Nat)*4294967296%18446744073709551616:Nat)) ?_ (hr:=rint (n:=IntKind.wrap .u64 ((((lim a).getD ((k/32+j)+1) 0:Nat):Int)*4294967296)) kR (wMU64 ((lim a).getD ((k/32+j)+1) 0:Nat) 4294967296))
 refine lV 58 (.int .u64 ((lim a).getD (k/32+j) 0+(lim a).getD (k/32+j+1) 0*4294967296:Nat)) ?_ (hr:=rint (opOr (t:=50) (u:=50) (x:=.tmp 52) (y:=.tmp 57) (a:=((lim a).getD (k/32+j) 0)) (b:=(((lim a).getD ((k/32+j)+1) 0:Nat)*4294967296%18446744073709551616:Nat)) kR kR kR oM oM _) (by rw[hS1]))
 refine lL hs [.m 10 58] (lN (CG.listed (lL hs [.m 59 8,.m 60 10,.m 61 1] (lV 62 (.int .i64 (k%32:Nat)) ?_ (hr:=rint (opRem (t:=3) (u:=3) (x:=.tmp 61) (y:=.const (.int .i64 32)) (k:=.i64) (a:=((k:Nat):Int)) (b:=(32:Int)) kR kR kR oM _) (tmodNat k 32))))))
 refine lV 63 (.int .u64 (k%32:Nat)) ?_ (hr:=rint (n:=IntKind.wrap .u64 ((k%32:Nat):Int)) kR (fitU64 oM oM))
 refine lV 64 (.int .u64 (((lim a).getD (k/32+j) 0+(lim a).getD (k/32+j+1) 0*4294967296)/2^(k%32):Nat)) ?_ (hr:=opShrN (t:=50) (u:=160) (x:=.tmp 60) (y:=.tmp 63) (ky:=.u64) (a:=((lim a).getD (k/32+j) 0+(lim a).getD (k/32+j+1) 0*4294967296)) (n:=(k%32)) kR kR kR oM _)
 refine lV 65 (.int .u32 ((((lim a).getD (k/32+j) 0+(lim a).getD (k/32+j+1) 0*4294967296)/2^(k%32):Nat)%4294967296:Nat)) ?_ (hr:=rint (n:=IntKind.wrap .u32 ((((lim a).getD (k/32+j) 0+(lim a).getD (k/32+j+1) 0*4294967296)/2^(k%32):Nat):Int)) kR (wrU32 _))
 refine lR 66 159 1 ([.int .u32 ((((lim a).getD (k/32+j) 0+(lim a).getD (k/32+j+1) 0*4294967296)/2^(k%32):Nat)%4294967296:Nat)]) hs (fun b15 w16 h17 hs=>?_)
 refine lY 67 0 159 1 sc sA l u32c ((((lim a).getD (k/32+j) 0+(lim a).getD (k/32+j+1) 0*4294967296)/2^(k%32):Nat)%4294967296:Nat) 4 b15 (.int .u32 0) hs (hs.f.1) (fun A19 c20 w21 h22 hs=>?_)
 refine lL hs [.m 8 67] (lN (CG.listed (lL hs [.m 48 9] (lIn 49 ((k/32+j:Nat)+1) ((k/32+j)+1) ?_))))
 refine lL hs [.m 9 49] (lD ?_)
 intro a_ ka
 have q24:(l++[((((lim a).getD (k/32+j) 0+(lim a).getD (k/32+j+1) 0*4294967296)/2^(k%32):Nat)%4294967296:Nat)]).length=(j+1):=(by rw[List.length_append,hll];rfl)
 have q25:Ld (l++[((((lim a).getD (k/32+j) 0+(lim a).getD (k/32+j+1) 0*4294967296)/2^(k%32):Nat)%4294967296:Nat)]):=(hW.app (Nat.mod_lt _ kD))
 have q26:2^(k%32)*bval 4294967296 (l++[((((lim a).getD (k/32+j) 0+(lim a).getD (k/32+j+1) 0*4294967296)/2^(k%32):Nat)%4294967296:Nat)])+((lim a).drop (k/32)).getD 0 0%2^(k%32)=bval 4294967296 (((lim a).drop (k/32)).take (j+1))+4294967296^(j+1)*(((lim a).drop (k/32)).getD (j+1) 0%2^(k%32)):=(dn_app hll inv (by rw[hdj,hdn];exact hS3))
 have q27:(l++[((((lim a).getD (k/32+j) 0+(lim a).getD (k/32+j+1) 0*4294967296)/2^(k%32):Nat)%4294967296:Nat)]).length≤(lim a).length:=(by rw[List.length_append];show _+1≤_;omega)
 replace hs:=hs.tl
 refine ⟨_,_,?_,⟨j+1,A19,c20,l++[((((lim a).getD (k/32+j) 0+(lim a).getD (k/32+j+1) 0*4294967296)/2^(k%32):Nat)%4294967296:Nat)],h22,rfl,rfl,hs.to _ _,q24,q25,q26,q27⟩,ka.to [(0,.slice A ((lim a).length) c),(1,.int .i64 (k:Nat)),(4,.slice none 0 0),(9,.int .i64 (k/32+(j+1):Nat)),(8,.slice A19 (((l++[((((lim a).getD (k/32+j) 0+(lim a).getD (k/32+j+1) 0*4294967296)/2^(k%32):Nat)%4294967296:Nat)])).length) c20)] kR⟩
 omega
def lval (l:List Nat):Nat:=bval 4294967296 l
theorem mulLB {a b:Nat}(ha:a<4294967296)(hb:b<4294967296):a*b≤18446744065119617025:=by
  have h1:a≤4294967295:=by omega
  have h2:b≤4294967295:=by omega
  exact Nat.mul_le_mul h1 h2
def l3 (u2 u1 u0:Nat):Nat:=4294967296*(4294967296*u2+u1)+u0
def l2 (v1 v0:Nat):Nat:=4294967296*v1+v0
structure Hss (u2 u1 u0 v1 v0 g r o:Nat):Prop where
  e:g*v1+(r+4294967296*o)=4294967296*u2+u1
  lt:g+1=4294967296∨l3 u2 u1 u0<(g+1)*l2 v1 v0
  gb:g<4294967296
def HssR (u2 u1 u0 v1 v0 g:Nat):Prop:=g*l2 v1 v0≤l3 u2 u1 u0∧(g+1=4294967296∨l3 u2 u1 u0<(g+1)*l2 v1 v0)∧g<4294967296
theorem gvl {g v1 v0:Nat}:g*l2 v1 v0=4294967296*(g*v1)+g*v0:=by unfold l2;rw[Nat.mul_add,Nat.mul_left_comm]
theorem Hss.fin {u2 u1 u0 v1 v0 g r o:Nat}(h:Hss u2 u1 u0 v1 v0 g r o)(ht:g*v0≤4294967296*(r+4294967296*o)+u0):HssR u2 u1 u0 v1 v0 g:=by
  refine ⟨?_,h.lt,h.gb⟩
  rw[gvl]
  unfold l3
  rw[←h.e,Nat.mul_add]
  omega
theorem l3_get {u:List Nat}{k:Nat}(hk:2≤k):l3 (u.getD k 0) (u.getD (k-1) 0) (u.getD (k-2) 0)=u.getD k 0*4294967296*4294967296+u.getD (k-1) 0*4294967296+u.getD (k-2) 0:=by
  unfold l3
  rw[Nat.mul_comm (u.getD k 0) 4294967296,Nat.mul_comm (4294967296*u.getD k 0) 4294967296,Nat.mul_comm (u.getD (k-1) 0),Nat.mul_add]
theorem l2_get {v1 v0:Nat}:l2 v1 v0=v1*4294967296+v0:=by unfold l2;rw[Nat.mul_comm]
section
variable {n j G:Nat} {u v:List Nat}
theorem dl_top (hn:2≤n)(hl:v.length=n)(hdv:Ld v)(hdu:Ld u)(hu:j+n<u.length)(hR:lval u<4294967296^(j+1)*lval v):u.getD (j+n) 0≤v.getD (n-1) 0:=by
  rcases Nat.lt_or_ge (v.getD (n-1) 0) (u.getD (j+n) 0) with h|h
  · exfalso
    have e1:=bval_take_succ 4294967296 (l:=v) (k:=n-1) oM
    rw[show n-1+1=v.length by omega,List.take_length] at e1
    have h1:=bval_lt (Dg.take hdv (n-1))
    rw[List.length_take,Nat.min_eq_left oM] at h1
    have e2:=bval_take_succ 4294967296 (l:=u) (k:=j+n) oM
    have e3:=bval_split 4294967296 (l:=u) (k:=j+n+1) oM
    have h2:4294967296^(j+n)*(v.getD (n-1) 0+1)≤4294967296^(j+n)*u.getD (j+n) 0:=Nat.mul_le_mul_left _ h
    have h3:4294967296^(j+1)*lval v<4294967296^(j+1)*(4294967296^(n-1)*(v.getD (n-1) 0+1)):=by
      refine Nat.mul_lt_mul_of_pos_left ?_ (Nat.pow_pos kD)
      show bval _ v<_
      rw[e1,Nat.mul_add,Nat.mul_one];omega
    rw[←Nat.mul_assoc,←Nat.pow_add,show j+1+(n-1)=j+n by omega] at h3
    have h4:lval u=bval 4294967296 (u.take (j+n))+4294967296^(j+n)*u.getD (j+n) 0+4294967296^(j+n+1)*bval 4294967296 (u.drop (j+n+1)):=by
      show bval _ u=_
      rw[e3,e2]
    have h5:=Nat.zero_le (4294967296^(j+n+1)*bval 4294967296 (u.drop (j+n+1)))
    omega
  · exact h
theorem dl_guess (hn:2≤n)(hl:v.length=n)(hdv:Ld v)(hdu:Ld u)(hu:j+n<u.length)(htop:v.getD (n-1) 0≠0)(hR:lval u<4294967296^(j+1)*lval v)(hG:HssR (u.getD (j+n) 0) (u.getD (j+n-1) 0) (u.getD (j+n-2) 0) (v.getD (n-1) 0) (v.getD (n-2) 0) G) :
    lval u/(4294967296^j*lval v)≤G∧G≤lval u/(4294967296^j*lval v)+1:=by
  obtain ⟨h1,h2,h3⟩:=hG
  rw[l3_get oM,l2_get] at h1 h2
  exact div_guess kD hn hl hdv hdu hu htop hR h1 h2 h3
theorem dl_vb (hn:2≤n)(hl:v.length=n)(hdv:Ld v)(htop:v.getD (n-1) 0≠0):4294967296^(n-1)≤lval v∧lval v<4294967296^n:=by
  have h2:=bval_lt hdv
  rw[hl] at h2
  refine ⟨?_,h2⟩
  have e1:=bval_take_succ 4294967296 (l:=v) (k:=n-1) oM
  rw[show n-1+1=v.length by omega,List.take_length] at e1
  have h3:4294967296^(n-1)*1≤4294967296^(n-1)*v.getD (n-1) 0:=Nat.mul_le_mul_left _ oM
  show _≤bval _ v
  omega
theorem dl_Rb (hn:2≤n)(hl:v.length=n)(hdv:Ld v)(hR:lval u<4294967296^(j+1)*lval v):lval u<4294967296^(j+n+1):=by
  have h2:=bval_lt hdv
  rw[hl] at h2
  have h1:4294967296^(j+1)*lval v<4294967296^(j+1)*4294967296^n:=Nat.mul_lt_mul_of_pos_left h2 (Nat.pow_pos kD)
  rw[←Nat.pow_add,show j+1+n=j+n+1 by omega] at h1
  omega
theorem dl_zero {u1:List Nat}(hn:2≤n)(hl:v.length=n)(hdv:Ld v)(hdu:Ld u)(hd1:Ld u1)(hu:j+n<u.length)(htop:v.getD (n-1) 0≠0)(hR:lval u<4294967296^(j+1)*lval v)
    (hG:lval u/(4294967296^j*lval v)≤G∧G≤lval u/(4294967296^j*lval v)+1)(hab:Above u1 u (j+n+1))(e:lval u1+4294967296^j*(G*lval v)=lval u+4294967296^(j+n+1)*0) :
    lval u1<4294967296^j*lval v∧lval u1+4294967296^j*(G*lval v)=lval u:=by
  obtain ⟨v1,v2⟩:=dl_vb hn hl hdv htop
  have hb:=above_lt (b:=4294967296) kD hab hd1 hdu (by rw[hab.1];omega) (dl_Rb hn hl hdv hR)
  have:=(div_digit (b:=4294967296) kD hn v1 v2 hR hb e (Nat.zero_le 1) hG).1 rfl
  rw[Nat.mul_zero,Nat.add_zero] at e
  exact ⟨this.2.2.1,e⟩
theorem dl_ar {U1 U2 W K T c:Nat}(e2:U2+T*c=U1+W)(g2:U1+W=K+T)(hU:U2<T)(hK:K<W)(hW:W≤T):U2=K:=by
  have hc:c=1:=by
    rcases Nat.lt_trichotomy c 1 with h|h|h
    · have:c=0:=by omega
      subst this;omega
    · exact h
    · have h2:T*2≤T*c:=Nat.mul_le_mul_left _ h
      omega
  subst hc
  omega
theorem dl_one {u1 u2:List Nat}{c:Nat}(hn:2≤n)(hl:v.length=n)(hdv:Ld v)(hdu:Ld u)(hd1:Ld u1)(hd2:Ld u2)(hu:j+n<u.length)(htop:v.getD (n-1) 0≠0)(hR:lval u<4294967296^(j+1)*lval v)
    (hG:lval u/(4294967296^j*lval v)≤G∧G≤lval u/(4294967296^j*lval v)+1)(hab:Above u1 u (j+n+1))(hab2:Above u2 u (j+n+1))(e:lval u1+4294967296^j*(G*lval v)=lval u+4294967296^(j+n+1)*1)
    (e2:lval u2+4294967296^(j+n+1)*c=lval u1+4294967296^j*lval v) :
    lval u2<4294967296^j*lval v∧lval u2+4294967296^j*((G-1)*lval v)=lval u∧0<G:=by
  obtain ⟨v1,v2⟩:=dl_vb hn hl hdv htop
  have hRb:=dl_Rb hn hl hdv hR
  have hb:=above_lt (b:=4294967296) kD hab hd1 hdu (by rw[hab.1];omega) hRb
  have hb2:=above_lt (b:=4294967296) kD hab2 hd2 hdu (by rw[hab2.1];omega) hRb
  obtain ⟨g1,g2,g3,g4⟩:=(div_digit (b:=4294967296) kD hn v1 v2 hR hb e oM hG).2 rfl
  have hbig:4294967296^j*lval v≤4294967296^(j+n+1):=by
    have h1:4294967296^j*lval v≤4294967296^j*4294967296^n:=Nat.mul_le_mul_left _ (Nat.le_of_lt v2)
    rw[←Nat.pow_add] at h1
    have h2:(4294967296:Nat)^(j+n)≤4294967296^(j+n+1):=Nat.pow_le_pow_right kD oM
    exact Nat.le_trans h1 h2
  have hk:lval u2=lval u-4294967296^j*((G-1)*lval v):=dl_ar e2 g2 hb2 g3 hbig
  exact ⟨by rw[hk];exact g3,by rw[hk];exact Nat.sub_add_cancel g4,by rw[g1];exact Nat.succ_pos _⟩
theorem dl_pos {u1:List Nat}(hn:2≤n)(hl:v.length=n)(hdv:Ld v)(hdu:Ld u)(hd1:Ld u1)(hu:j+n<u.length)(htop:v.getD (n-1) 0≠0)(hR:lval u<4294967296^(j+1)*lval v)
    (hG:lval u/(4294967296^j*lval v)≤G∧G≤lval u/(4294967296^j*lval v)+1)(hab:Above u1 u (j+n+1))(e:lval u1+4294967296^j*(G*lval v)=lval u+4294967296^(j+n+1)*1):0<G:=by
  obtain ⟨v1,v2⟩:=dl_vb hn hl hdv htop
  have hb:=above_lt (b:=4294967296) kD hab hd1 hdu (by rw[hab.1];omega) (dl_Rb hn hl hdv hR)
  obtain ⟨g1,_⟩:=(div_digit (b:=4294967296) kD hn v1 v2 hR hb e (Nat.le_refl 1) hG).2 rfl
  rw[g1];exact Nat.succ_pos _
end
theorem dl_quo {q:List Nat}{j Q X V R R':Nat}(hj:j<q.length)(h0:q.getD j 0=0)(inv:X=lval q*V+R)(e:R'+4294967296^j*(Q*V)=R):X=lval (q.set j Q)*V+R':=by
  have s1:=bval_set 4294967296 (l:=q) (k:=j) Q hj
  rw[h0,Nat.mul_zero,Nat.add_zero] at s1
  have s2:lval (q.set j Q)=lval q+4294967296^j*Q:=s1
  rw[s2,Nat.add_mul,inv,←e,Nat.mul_assoc];omega
theorem dl_end {X V R q a b s:Nat}(hV:V=b*2^s)(hX:X=a*2^s)(inv:X=q*V+R)(hR:R<V):q=a/b∧R/2^s=a%b:=by
  have hp:=Nat.two_pow_pos s
  have hV0:0<V:=by omega
  have hb:0<b:=by
    rcases Nat.eq_zero_or_pos b with h|h
    · rw[h,Nat.zero_mul] at hV;omega
    · exact h
  have e1:a*2^s=V*q+R:=by rw[←hX,inv,Nat.mul_comm]
  obtain ⟨h1,h2⟩:=half_core (A:=a) (y:=b) (Q:=q) hV e1 hR
  have h3:a=R/2^s+b*q:=by omega
  constructor
  · rw[h3,Nat.add_mul_div_left _ _ hb,Nat.div_eq_of_lt h2,Nat.zero_add]
  · rw[h3,Nat.add_mul_mod_self_left,Nat.mod_eq_of_lt h2]
structure Gk (u2 u1 u0 v1 v0 g r:Nat):Prop where
  e:g*v1+r=4294967296*u2+u1
  lt:4294967296≤g+1∨l3 u2 u1 u0<(g+1)*l2 v1 v0
theorem Gk.start {u2 u1 u0 v1 v0:Nat}(hv:0<v1)(h0:u0<4294967296):Gk u2 u1 u0 v1 v0 ((u2*4294967296+u1)/v1) ((u2*4294967296+u1)%v1):=by
  have e:=Nat.div_add_mod (u2*4294967296+u1) v1
  have hr:=Nat.mod_lt (u2*4294967296+u1) hv
  generalize (u2*4294967296+u1)/v1=q at *
  generalize (u2*4294967296+u1)%v1=r at *
  rw[Nat.mul_comm u2] at e
  refine ⟨by rw[Nat.mul_comm q];exact e,.inr ?_⟩
  rw[gvl,Nat.add_mul q 1 v1,Nat.one_mul,Nat.mul_comm q v1]
  unfold l3
  rw[←e]
  have h1:4294967296*(v1*q+r)+4294967296≤4294967296*(v1*q+v1):=by
    rw[←Nat.mul_succ]
    exact Nat.mul_le_mul_left _ oM
  have h2:0≤(q+1)*v0:=Nat.zero_le _
  omega
theorem Gk.step {u2 u1 u0 v1 v0 g r:Nat}(h:Gk u2 u1 u0 v1 v0 g r)(hg:0<g):(g-1)*v1+(r+v1)=4294967296*u2+u1:=by
  obtain ⟨p,rfl⟩:∃ p,g=p+1:=⟨g-1,by omega⟩
  have e1:=h.e
  rw[Nat.add_mul,Nat.one_mul] at e1
  rw[Nat.add_sub_cancel]
  omega
theorem Gk.decB {u2 u1 u0 v1 v0 g r:Nat}(h:Gk u2 u1 u0 v1 v0 g r)(hg:4294967296≤g):Gk u2 u1 u0 v1 v0 (g-1) (r+v1):=⟨h.step oM,.inl oM⟩
theorem Gk.decT {u2 u1 u0 v1 v0 g r:Nat}(h:Gk u2 u1 u0 v1 v0 g r)(ht:4294967296*r+u0<g*v0):0<g∧Gk u2 u1 u0 v1 v0 (g-1) (r+v1):=by
  have hg:0<g:=pos_of_mul ht
  refine ⟨hg,h.step hg,.inr ?_⟩
  rw[show g-1+1=g by omega,gvl]
  unfold l3
  rw[←h.e,Nat.mul_add]
  omega
theorem Gk.big {u2 u1 u0 v1 v0 g r:Nat}(h:Gk u2 u1 u0 v1 v0 g r)(hg:4294967296≤g)(hle:u2≤v1)(h1:u1<4294967296):r<4294967296:=by
  have e:=h.e
  have e1:4294967296*v1≤g*v1:=Nat.mul_le_mul_right _ hg
  have e2:4294967296*u2≤4294967296*v1:=Nat.mul_le_mul_left _ hle
  omega
theorem Gk.fin {u2 u1 u0 v1 v0 g r:Nat}(h:Gk u2 u1 u0 v1 v0 g r)(hg:g<4294967296)(h0:v0<4294967296)(ht:4294967296≤r∨g*v0≤4294967296*r+u0):HssR u2 u1 u0 v1 v0 g:=by
  have hs:Hss u2 u1 u0 v1 v0 g r 0:=⟨by rw[Nat.mul_zero,Nat.add_zero];exact h.e,by rcases h.lt with h1|h1;exact .inl oM;exact .inr h1,hg⟩
  refine hs.fin ?_
  rw[Nat.mul_zero,Nat.add_zero]
  rcases ht with h1|h1
  · have h2:=mulLB hg h0
    have h3:4294967296*4294967296≤4294967296*r:=Nat.mul_le_mul_left _ h1
    omega
  · exact h1
theorem lim_len_nb (n:Nat):(lim n).length=(nb n+31)/32:=by
  rcases Nat.eq_zero_or_pos n with h|h
  · subst h;rfl
  · have h1:=nb_lim h
    have h2:=lim_last n h
    have h3:=(Ld.lim n).get ((lim n).length-1)
    have h4:=lim_pos.2 h
    generalize (lim n).getD ((lim n).length-1) 0=t at *
    have h5:=(nb_spec (Nat.pos_of_ne_zero h2)).2.2
    have h6:nb t≤32:=nb_le (k:=32) h3
    omega
theorem nb_shift {b:Nat}(hb:0<b)(s:Nat):nb (b*2^s)=nb b+s:=by
  obtain ⟨s1,s2,s3⟩:=nb_spec hb
  rw[show nb b+s=(nb b-1+s)+1 by omega]
  apply nb_unique
  · rw[Nat.pow_add];exact Nat.mul_le_mul_right _ s1
  · rw[show nb b-1+s+1=nb b+s by omega,Nat.pow_add];exact Nat.mul_lt_mul_of_pos_right s2 (Nat.two_pow_pos s)
section joi
variable {P:Program} {n:Nat} {N R:Po} {X:Nat→Po} {Γ:Env} {w:World}
theorem CG.join {x y:Code}(I:Env→World→Prop)(h1:CG P n (fun a w'=>∃ Γ',I Γ' w'∧Kn n a Γ') R X x Γ w)(h2:∀ Γ w,I Γ w→CG P n N R X y Γ w):CG P n N R X (.seq x y) Γ w:=by
  intro a ka
  refine wp_seq (wp_mono (h1 a ka) ?_)
  intro e a w hq
  cases e with
  | normal=>obtain ⟨Γ',hI,ka'⟩:=hq;exact h2 Γ' w hI a ka'
  | _=>exact hq
end joi
section fin
variable {M:Ms} {P:Program} {n:Nat} {N R:Po} {X:Nat→Po} {ops:Array Oper} {k0:Nat} {hr:Hp} {L:Array Bool} {Γ:Env} {w:World} {h:Hp} {w0:World} {h0:Hp} {B:List Bx} {Rs:List Rw} {F:List (Hp→Prop)}
end fin
section tail
variable {M:Ms} {P:Program} {n:Nat} {N R:Po} {X:Nat→Po} {ops:Array Oper} {k0:Nat} {L:Array Bool} {Γ:Env} {w:World} {h:Hp} {w0:World} {h0:Hp} {B:List Bx} {Rs:List Rw} {F:List (Hp→Prop)}
end tail
section self
variable {P:Program} {n:Nat} {N R:Po} {X:Nat→Po} {ops:Array Oper} {k:Nat} {Γ:Env} {w:World} {h:Hp} {w0:World} {h0:Hp} {B:List Bx} {Rs:List Rw} {F:List (Hp→Prop)}
end self
theorem rNatShN (x:Nat)(A:Option Addr)(c m:Nat)(hm:(lim x).length=m)(hc:m≤c)(hL:m≤4000000000)(s:Nat)(hs:s≤4000000000)(w:World)(h:Hp)(g:G w h)(hA:SlO 1 u32c 0 h A (lim x)) :
    Calls Tryz.prog 147 #[.slice A m c,.int .i64 (-((s:Nat):Int))] w (Ret w h fun v h1=>RN h1 v (x/2^s)):=by
  subst hm
  rcases Nat.eq_zero_or_pos s with h0|h0
  · subst h0
    have:=rNatShift x A c hc hL 0 oM w h g hA
    rw[Nat.pow_zero,Nat.mul_one] at this
    rw[Nat.pow_zero,Nat.div_one]
    exact this
  · exact rNatShiftD x A c hc hL s h0 hs w h g hA
theorem dl_start {a b s k:Nat}(hvn:(lim (b*2^s)).length=k)(hk:2≤k)(hlen:k≤(lim (a*2^s)).length+1)(hb:0<b*2^s):lval (lim (a*2^s)++[0,0])<4294967296^((lim (a*2^s)).length+2-(lim (b*2^s)).length)*lval (lim (b*2^s)):=by
  have e1:lval (lim (a*2^s)++[0,0])=a*2^s:=by
    unfold lval;rw[bval_append,bval_lim];simp[bval]
  have e2:lval (lim (b*2^s))=b*2^s:=bval_lim _
  rw[e1,e2]
  have h1:=lim_lt_pow (a*2^s)
  have h2:4294967296^((lim (b*2^s)).length-1)≤b*2^s:=by rw[lim_dig];exact dig_len_ge kD hb
  have h3:4294967296^((lim (a*2^s)).length+2-(lim (b*2^s)).length)*4294967296^((lim (b*2^s)).length-1)≤4294967296^((lim (a*2^s)).length+2-(lim (b*2^s)).length)*(b*2^s):=Nat.mul_le_mul_left _ h2
  rw[←Nat.pow_add] at h3
  have h4:4294967296^(lim (a*2^s)).length≤4294967296^((lim (a*2^s)).length+2-(lim (b*2^s)).length+((lim (b*2^s)).length-1)):=Nat.pow_le_pow_right kD oM
  omega
theorem dl_inv {a s V n:Nat}:a*2^s=lval (List.replicate n 0)*V+lval (lim (a*2^s)++[0,0]):=by
  unfold lval;rw[bval_rep,Nat.zero_mul,Nat.zero_add,bval_append,bval_lim];simp[bval]
theorem rNatDivLt (a:Nat)(A:Option Addr)(c:Nat)(hc:(lim a).length≤c)(b:Nat)(D:Option Addr)(d:Nat)(hd:(lim b).length≤d)(hLa:(lim a).length≤3000000000)(hLb:(lim b).length≤3000000000)(hab:a<b)(w:World)(h:Hp)(g:G w h)(hA:SlO 1 u32c 0 h A (lim a))(hD:SlO 1 u32c 0 h D (lim b)) :
    Calls Tryz.prog 120 #[.slice A ((lim a).length) c,.slice D ((lim b).length) d] w (Ret w h fun v h1=>∃ v1 v2,v=.tuple #[v1,v2]∧RN h1 v1 (a/b)∧RN h1 v2 (a%b)):=by
 have hs:=SS.start g
 replace hs:=((hs.a_SlO hA).a_SlO hD)
 have hcl:=cmpN_lt hab
 refine go Tryz.func120 [(0,.slice A ((lim a).length) c),(1,.slice D ((lim b).length) d)] rfl ?_
 refine cSL (lL hs [.v 4 (.slice none 0 0),.v 5 (.slice none 0 0)] (lN (CG.seq (cSL (lL hs [.m 25 0,.m 26 1] (lC 27 hs (rNatCmp a A c hc b D d hd oM oM _ _ hs.g (hs.f.2.1) (hs.f.1)) ?_))))))
 rintro _ w1 h2 hs rfl
 have ⟨hb3,phb3⟩:=dT (p:=(cmpN a b:Int)<(0:Int)) oM
 refine lB 28 hb3 ?_
 exact lN (cIT (cSL (lL hs [.m 29 0,.v 4 (.slice none 0 0),.m 5 29] (lN (CG.ret (hs.ret [] (.tuple #[.slice none 0 0,.slice A ((lim a).length) c]) (⟨_,_,rfl,by rw[Nat.div_eq_of_lt hab];exact ⟨none,0,rfl,Nat.le_refl _,SlO.nil⟩,by rw[Nat.mod_eq_of_lt hab];exact ⟨A,c,rfl,hc,(hs.f.2.1)⟩⟩)))))))
theorem lim_single {b:Nat}(h:(lim b).length=1):b<4294967296∧(lim b).getD 0 0=b∧0<b:=by
  have h1:=lim_lt_pow b
  rw[h] at h1
  have h2:0<b:=lim_pos.1 oM
  refine ⟨by omega,?_,h2⟩
  rw[lim_one h2 oM];rfl
theorem rNatDivOne (a:Nat)(A:Option Addr)(c:Nat)(hc:(lim a).length≤c)(b:Nat)(D:Option Addr)(d:Nat)(hd:(lim b).length≤d)(hLa:(lim a).length≤3000000000)(hLb:(lim b).length≤3000000000)(hab:b≤a)(h1:(lim b).length=1)(w:World)(h:Hp)(g:G w h)(hA:SlO 1 u32c 0 h A (lim a))(hD:SlO 1 u32c 0 h D (lim b)) :
    Calls Tryz.prog 120 #[.slice A ((lim a).length) c,.slice D ((lim b).length) d] w (Ret w h fun v h1=>∃ v1 v2,v=.tuple #[v1,v2]∧RN h1 v1 (a/b)∧RN h1 v2 (a%b)):=by
 have hs:=SS.start g
 replace hs:=((hs.a_SlO hA).a_SlO hD)
 have hcl:=cmpN_ge hab
 obtain ⟨hb1,hb2,hb3⟩:=lim_single h1
 refine go Tryz.func120 [(0,.slice A ((lim a).length) c),(1,.slice D ((lim b).length) d)] rfl ?_
 refine cSL (lL hs [.v 4 (.slice none 0 0),.v 5 (.slice none 0 0)] (lN (CG.seq (cSL (lL hs [.m 25 0,.m 26 1] (lC 27 hs (rNatCmp a A c hc b D d hd oM oM _ _ hs.g (hs.f.2.1) (hs.f.1)) ?_))))))
 rintro _ w1 h2 hs rfl
 have ⟨hb3,phb3⟩:=dF (p:=(cmpN a b:Int)<(0:Int)) oM
 refine lB 28 hb3 ?_
 refine lN (cIF (CG.skipN (CG.seq (cSL (lL hs [.m 30 1,.v 31 (.int .i64 ((lim b).length:Nat))] ?_)))))
 have hb4:((((lim b).length:Nat):Int) == (1:Int))=true:=beqT oM
 have phb4:=eq_of_beq hb4
 refine lB 32 hb4 ?_
 refine lN (cIT (cSL (lL hs [.m 34 0,.m 35 1] (lX 36 D ((lim b).length) d 1 0 0 ((hs.f.1).ok oM) ?_))))
 refine lH 37 (.int .u32 ((lim b).getD 0 0:Nat)) hs ((hs.f.1).el 0 oM) ?_
 refine lC 38 hs (rOne a A c hc oM ((lim b).getD 0 0) oM oM _ _ hs.g (hs.f.2.1)) ?_
 rintro _ w5 h6 hs ⟨_,r,rfl,⟨Aq,cq,rfl,hcq,hq⟩,hr_⟩
 replace hs:=(hs.a_SlO hq)
 refine lL hs [.m 33 38,.v 39 (.slice Aq ((lim (a/((lim b).getD 0 0))).length) cq),.v 40 (.int .u32 (r:Nat)),.m 6 39,.m 7 40] (lNS (lL hs [.m 41 6,.m 42 7] ?_))
 have hrb:=Nat.mod_lt a (show 0<(lim b).getD 0 0 by omega)
 refine lV 43 (.int .u64 (r:Nat)) ?_ (hr:=rint (n:=IntKind.wrap .u64 ((r:Nat):Int)) kR (fitU64 oM oM))
 refine lC 44 hs (rNatOf r oM _ _ hs.g) ?_
 rintro _ w11 h12 hs ⟨A7,c8,rfl,hc9,hA10⟩
 replace hs:=(hs.a_SlO hA10)
 exact lL hs [.m 4 41,.m 5 44] (lN (CG.ret (hs.ret [] (.tuple #[.slice Aq ((lim (a/((lim b).getD 0 0))).length) cq,.slice A7 ((lim r).length) c8]) (⟨_,_,rfl,by rw[hb2] at *;exact ⟨_,_,rfl,hcq,(hs.f.2.1)⟩,by rw[←hb2,←hr_];exact ⟨_,_,rfl,hc9,(hs.f.1)⟩⟩))))
theorem rNatDivLong (a:Nat)(A:Option Addr)(c:Nat)(hc:(lim a).length≤c)(b:Nat)(D:Option Addr)(d:Nat)(hd:(lim b).length≤d)(hLa:(lim a).length≤3000000000)(hLb:(lim b).length≤3000000000)(hab:b≤a)(hb2:2≤(lim b).length)(s:Nat)(hs_:s=32*(lim b).length-nb b)(w:World)(h:Hp)(g:G w h)(hA:SlO 1 u32c 0 h A (lim a))(hD:SlO 1 u32c 0 h D (lim b)) :
    Calls Tryz.prog 120 #[.slice A ((lim a).length) c,.slice D ((lim b).length) d] w (Ret w h fun v h1=>∃ v1 v2,v=.tuple #[v1,v2]∧RN h1 v1 (a/b)∧RN h1 v2 (a%b)):=by
 have hs:=SS.start g
 replace hs:=((hs.a_SlO hA).a_SlO hD)
 have hcl:=cmpN_ge hab
 have hbp:0<b:=lim_pos.1 oM
 have hln:=lim_len_nb b
 have hs32:s<32:=by omega
 have hvn:(lim (b*2^s)).length=(lim b).length:=by rw[lim_len_nb,nb_shift hbp];omega
 have hlm:=lim_len_mono hab
 have has:=lim_len_mono (show a≤a*2^s from Nat.le_mul_of_pos_right _ (Nat.two_pow_pos s))
 have hal2:(lim (a*2^s)).length≤(lim a).length+1:=lim_len_le (by rw[Nat.pow_succ];exact Nat.lt_of_lt_of_le (Nat.mul_lt_mul_of_pos_right (lim_lt_pow a) (Nat.two_pow_pos s)) (Nat.mul_le_mul_left _ (Nat.le_trans (Nat.pow_le_pow_right kD (show s≤32 by omega)) (Nat.le_refl (2^32)))))
 have h00:([0,0]:List Nat).length=2:=rfl
 have hul_:((lim (a*2^s))++[0,0]).length=((lim (a*2^s)).length+2):=by simp
 have hWv:=Ld.lim (b*2^s)
 have htop:=lim_last (b*2^s) (Nat.mul_pos hbp (Nat.two_pow_pos s))
 have hv1:=hWv.get ((lim (b*2^s)).length-1)
 have hv0:=hWv.get ((lim (b*2^s)).length-2)
 refine go Tryz.func120 [(0,.slice A ((lim a).length) c),(1,.slice D ((lim b).length) d)] rfl ?_
 refine cSL (lL hs [.v 4 (.slice none 0 0),.v 5 (.slice none 0 0)] (lN (CG.seq (cSL (lL hs [.m 25 0,.m 26 1] (lC 27 hs (rNatCmp a A c hc b D d hd oM oM _ _ hs.g (hs.f.2.1) (hs.f.1)) ?_))))))
 rintro _ w1 h2 hs rfl
 have ⟨hb3,phb3⟩:=dF (p:=(cmpN a b:Int)<(0:Int)) oM
 refine lB 28 hb3 ?_
 refine lN (cIF (CG.skipN (CG.seq (cSL (lL hs [.m 30 1,.v 31 (.int .i64 ((lim b).length:Nat))] ?_)))))
 have hb4:((((lim b).length:Nat):Int) == (1:Int))=false:=beqF oM
 have phb4:=neOfBeq hb4
 refine lB 32 hb4 ?_
 refine lN (cIF (CG.skipN (cSL (lL hs [.m 45 1,.v 46 (.int .i64 ((lim b).length:Nat))] (lIn 47 (32*((lim b).length:Nat)) (32*(lim b).length) ?_)))))
 refine lL hs [.m 48 1] (lC 49 hs (rNatBits b D d hd oM _ _ hs.g (hs.f.1)) ?_)
 rintro _ w5 h6 hs rfl
 refine lIn 50 ((32*(lim b).length:Nat)-(nb b:Nat)) s ?_
 refine lL hs [.m 8 50] (lNS (lL hs [.m 51 1,.m 52 8] (lC 53 hs (rNatShift b D d hd oM s oM _ _ hs.g (hs.f.1)) ?_)))
 rintro _ w11 h12 hs ⟨A7,c8,rfl,hc9,hA10⟩
 replace hs:=(hs.a_SlO hA10)
 refine lL hs [.m 9 53] (lNS (lR 54 159 0 ([]) hs (fun b13 w14 h15 hs=>?_)))
 refine lL hs [.m 55 0,.m 56 8] (lC 57 hs (rNatShift a A c hc oM s oM _ _ hs.g (hs.f.2.2.2.1)) ?_)
 rintro _ w21 h22 hs ⟨A17,c18,rfl,hc19,hA20⟩
 replace hs:=(hs.a_SlO hA20)
 refine lYz 58 159 1 u32c 0 b13 A17 (lim (a*2^s)) c18 4 (.int .u32 0) hs (hs.f.1) oM (fun _ _=>by kernel_rfl) (fun A23 c24 w25 h26 hs=>?_)
 refine lR 59 159 2 ([.int .u32 0,.int .u32 0]) hs (fun b28 w29 h30 hs=>?_)
 replace hs:=hs.a_SlO (SlO.of_flat (sz:=1) (f:=u32c) (d:=0) (l:=[0,0]) (fun _=>rfl) (hs.f.1))
 refine lYs 60 0 159 1 c24 A23 (lim (a*2^s)) u32c 0 (some ⟨b28,0,none⟩) ([0,0]) 2 4 (.int .u32 0) hs (hs.f.1) oM (fun A33 c34 w35 h36 hs=>?_)
 refine lL hs [.m 10 60] (lNS (lL hs [.m 61 9,.v 62 (.int .i64 ((lim (b*2^s)).length:Nat)),.m 11 62] (lNS (lL hs [.m 63 9,.m 64 11] (lIn 65 (((lim (b*2^s)).length:Nat)-1) (((lim (b*2^s)).length:Nat)-1) ?_)))))
 refine lX 66 A7 ((lim (b*2^s)).length) c8 1 (((lim (b*2^s)).length:Nat)-1:Nat) (((lim (b*2^s)).length:Nat)-1:Nat) ((hs.f.2.2.2.2.1).ok oM) ?_
 refine lH 67 (.int .u32 ((lim (b*2^s)).getD (((lim (b*2^s)).length:Nat)-1:Nat) 0:Nat)) hs ((hs.f.2.2.2.2.1).el (((lim (b*2^s)).length:Nat)-1:Nat) oM) ?_
 refine lV 68 (.int .u64 ((lim (b*2^s)).getD (((lim (b*2^s)).length:Nat)-1:Nat) 0:Nat)) ?_ (hr:=rint (n:=IntKind.wrap .u64 (((lim (b*2^s)).getD (((lim (b*2^s)).length:Nat)-1:Nat) 0:Nat):Int)) kR (fitU64 oM oM))
 refine lL hs [.m 12 68] (lNS (lL hs [.m 69 9,.m 70 11] (lIn 71 (((lim (b*2^s)).length:Nat)-2) (((lim (b*2^s)).length:Nat)-2) ?_)))
 refine lX 72 A7 ((lim (b*2^s)).length) c8 1 (((lim (b*2^s)).length:Nat)-2:Nat) (((lim (b*2^s)).length:Nat)-2:Nat) ((hs.f.2.2.2.2.1).ok oM) ?_
 refine lH 73 (.int .u32 ((lim (b*2^s)).getD (((lim (b*2^s)).length:Nat)-2:Nat) 0:Nat)) hs ((hs.f.2.2.2.2.1).el (((lim (b*2^s)).length:Nat)-2:Nat) oM) ?_
 refine lV 74 (.int .u64 ((lim (b*2^s)).getD (((lim (b*2^s)).length:Nat)-2:Nat) 0:Nat)) ?_ (hr:=rint (n:=IntKind.wrap .u64 (((lim (b*2^s)).getD (((lim (b*2^s)).length:Nat)-2:Nat) 0:Nat):Int)) kR (fitU64 oM oM))
 refine lL hs [.m 13 74] (lN (cTo [(4,.slice none 0 0),(5,.slice none 0 0),(8,.int .i64 (s:Nat)),(9,.slice A7 ((lim (b*2^s)).length) c8),(10,.slice A33 ((lim (a*2^s)++([0,0])).length) c34),(11,.int .i64 ((lim (b*2^s)).length:Nat)),(12,.int .u64 ((lim (b*2^s)).getD (((lim (b*2^s)).length:Nat)-1:Nat) 0:Nat)),(13,.int .u64 ((lim (b*2^s)).getD (((lim (b*2^s)).length:Nat)-2:Nat) 0:Nat))] ?_))
 refine cSL (lL hs [.m 75 10,.v 76 (.int .i64 ((lim (a*2^s)++([0,0])).length:Nat)),.m 77 11] (lIn 78 (((lim (a*2^s)++([0,0])).length:Nat)-((lim (b*2^s)).length:Nat)) (((lim (a*2^s)).length+2)-(lim (b*2^s)).length) ?_))
 refine lK 79 159 (((lim (a*2^s)).length+2)-(lim (b*2^s)).length:Nat) 1 4 (.int .u32 0) u32c 0 hs (fun b38 w39 h40 hs=>?_)
 have hl41:(List.replicate (((lim (a*2^s)).length+2)-(lim (b*2^s)).length:Nat) 0).length=(((lim (a*2^s)).length+2)-(lim (b*2^s)).length:Nat):=by simp
 refine lL hs [.m 14 79] (lN (CG.seq (cSL (lL hs [.m 80 10,.v 81 (.int .i64 ((lim (a*2^s)++([0,0])).length:Nat)),.m 82 11] (lIn 83 (((lim (a*2^s)++([0,0])).length:Nat)-((lim (b*2^s)).length:Nat)) (((lim (a*2^s)++([0,0])).length:Nat)-((lim (b*2^s)).length:Nat)) ?_)))))
 refine lV 84 (.int .i64 (((((lim (a*2^s)).length+2)-(lim (b*2^s)).length:Nat):Int)-1)) ?_ (hr:=rint (n:=IntKind.wrap .i64 ((((lim (a*2^s)++([0,0])).length:Nat)-((lim (b*2^s)).length:Nat):Nat)-1)) kR ((wr64 oM oM).trans oM))
 refine lL hs [.m 15 84] (lN (CG.block (cTo [(4,.slice none 0 0),(5,.slice none 0 0),(8,.int .i64 (s:Nat)),(9,.slice A7 ((lim (b*2^s)).length) c8),(10,.slice A33 ((lim (a*2^s)++([0,0])).length) c34),(11,.int .i64 ((lim (b*2^s)).length:Nat)),(12,.int .u64 ((lim (b*2^s)).getD (((lim (b*2^s)).length:Nat)-1:Nat) 0:Nat)),(13,.int .u64 ((lim (b*2^s)).getD (((lim (b*2^s)).length:Nat)-2:Nat) 0:Nat)),(14,.slice (some ⟨b38,0,none⟩) (((lim (a*2^s)).length+2)-(lim (b*2^s)).length:Nat) (((lim (a*2^s)).length+2)-(lim (b*2^s)).length:Nat)),(15,.int .i64 (((((lim (a*2^s)).length+2)-(lim (b*2^s)).length:Nat):Int)-1))] ?_)))
 refine CG.loop (fun μ_ Γ w_=>∃ (m:Nat) (rA:Option Addr) (rc:Nat) (u:List Nat) (ql:List Nat) (h_:Hp),μ_=m∧Γ=[(4,.slice none 0 0),(5,.slice none 0 0),(8,.int .i64 (s:Nat)),(9,.slice A7 ((lim (b*2^s)).length) c8),(10,.slice rA ((u).length) rc),(11,.int .i64 ((lim (b*2^s)).length:Nat)),(12,.int .u64 ((lim (b*2^s)).getD (((lim (b*2^s)).length:Nat)-1:Nat) 0:Nat)),(13,.int .u64 ((lim (b*2^s)).getD (((lim (b*2^s)).length:Nat)-2:Nat) 0:Nat)),(14,.slice (some ⟨b38,0,none⟩) (((lim (a*2^s)).length+2)-(lim (b*2^s)).length:Nat) (((lim (a*2^s)).length+2)-(lim (b*2^s)).length:Nat)),(15,.int .i64 (((m:Nat):Int)-1))]∧SS w h w_ h_ [⟨b38,159,(ql).flatMap u32c⟩] [⟨159,1,rA,rc,(u).length,(u).flatMap u32c⟩] [fun h_=>SlO 1 u32c 0 h_ (some ⟨b28,0,none⟩) ([0,0]),fun h_=>Seg h_ b28 0 ([.int .u32 0,.int .u32 0]),fun h_=>SlO 1 u32c 0 h_ A17 (lim (a*2^s)),fun h_=>Seg h_ b13 0 ([]),fun h_=>SlO 1 u32c 0 h_ A7 (lim (b*2^s)),fun h_=>SlO 1 u32c 0 h_ D (lim b),fun h_=>SlO 1 u32c 0 h_ A (lim a)]∧(m≤((lim (a*2^s)).length+2)-(lim (b*2^s)).length)∧(u.length=((lim (a*2^s)).length+2))∧(Ld u)∧(ql.length=((lim (a*2^s)).length+2)-(lim (b*2^s)).length)∧(Ld ql)∧(lval u<4294967296^m*lval (lim (b*2^s)))∧(a*2^s=lval ql*lval (lim (b*2^s))+lval u)∧(∀ k,k<m→ql.getD k 0=0)) _ ⟨((lim (a*2^s)).length+2)-(lim (b*2^s)).length,A33,c34,(lim (a*2^s))++[0,0],List.replicate (((lim (a*2^s)).length+2)-(lim (b*2^s)).length:Nat) 0,h40,rfl,rfl,hs.to _ _,Nat.le_refl _,hul_,(Dg.append (Ld.lim _) (Dg.cons kD (Dg.one kD))),hl41,Ld.rep _,(dl_start hvn hb2 oM (Nat.mul_pos hbp (Nat.two_pow_pos s))),dl_inv,fun k _=>getD_rep⟩ ?_
 rintro _ _ w42 ⟨m,rA,rc,u,ql,h43,hm44,rfl,hs,hm,hul,hWu,hql,hWq,hR,inv,hq0⟩
 refine CG.seq (cSL (lL hs [.m 85 15] ?_))
 cases hb45:(decide ((0:Int)≤(((m:Nat):Int)-1:Int)))
 ·
  have phb45:=oF hb45
  refine lB 86 hb45 ?_
  refine lN (cIF (CG.exit ?_))
  show CG _ _ _ _ _ _ _ _
  refine cSL (lL hs [.m 251 14] ?_)
  have hm0:m=0:=by omega
  rw[hm0,Nat.pow_zero,Nat.one_mul] at hR
  obtain ⟨hQ,hRm⟩:=dl_end (bval_lim (b*2^s)) rfl inv hR
  obtain ⟨h46,hs,sg47,lo48,bc49⟩:=hs.pub 0
  replace hs:=(hs.to [] [⟨159,1,rA,rc,(u).length,(u).flatMap u32c⟩]).a_SlO (SlO.of_flat (sz:=1) (f:=u32c) (d:=0) (b:=b38) (o:=0) (l:=ql) (fun _=>rfl) sg47)
  refine lC 252 hs (rTrim (some ⟨b38,0,none⟩) (((lim (a*2^s)).length+2)-(lim (b*2^s)).length:Nat) ql (((lim (a*2^s)).length+2)-(lim (b*2^s)).length:Nat) hql oM oM _ _ hs.g (hs.f.1)) ?_
  rintro _ w51 h52 hs rfl
  refine lL hs [.m 253 10] ?_
  obtain ⟨h53,hs,hc54⟩:=hs.pubr 0 (A:=rA) (c:=rc) (l:=u) (f:=u32c) (ty:=159) (sz:=1) 0 (fun _=>rfl)
  refine lC 254 hs (rTrim rA rc u ((u).length) rfl oM hc54 _ _ hs.g (hs.f.1)) ?_
  rintro _ w56 h57 hs rfl
  refine lL hs [.m 255 8] (lV 256 (.int .i64 (-((s:Nat):Int))) ?_ (hr:=rint (n:=IntKind.wrap .i64 (0-((s:Nat):Int))) kR (by rw[IntKind.wrap_i64];omega)))
  refine lC 257 hs (rNatShN (lval u) rA rc (tl u ((u).length)) (lim_of_len hWu rfl) (by have:=tl_le u u.length;omega) (by have:=tl_le u u.length;omega) s oM _ _ hs.g (by rw[lim_of (n:=lval u) hWu rfl];exact (hs.f.1).take _)) ?_
  rintro _ w62 h63 hs ⟨A58,c59,rfl,hc60,hA61⟩
  replace hs:=(hs.a_SlO hA61)
  exact lL hs [.m 4 252,.m 5 257] (lN (CG.ret (hs.ret [] (.tuple #[.slice (some ⟨b38,0,none⟩) (tl ql (((lim (a*2^s)).length+2)-(lim (b*2^s)).length:Nat)) (((lim (a*2^s)).length+2)-(lim (b*2^s)).length:Nat),.slice A58 ((lim (lval u/2^s)).length) c59]) (⟨_,_,rfl,RN.trim hWq hQ hql (Nat.le_refl _) (hs.f.2.2.1),by rw[←hRm];exact ⟨_,_,rfl,hc60,(hs.f.1)⟩⟩))))
 have phb45:=oT hb45
 refine lB 86 hb45 ?_
 refine lN (cIT (CG.skipN (CG.seq (CG.block (CG.seq (cR 17 [] mixed hs al_nil ?_))))))
 have hm1:0<m:=by omega
 have hn2:2≤(lim (b*2^s)).length:=by omega
 have hjn:m-1+(lim (b*2^s)).length<u.length:=by omega
 have hR1:lval u<4294967296^(m-1+1)*lval (lim (b*2^s)):=by rw[show m-1+1=m by omega];exact hR
 have hle:=dl_top hn2 rfl hWv hWu hjn hR1
 have hu2:=hWu.get (m-1+(lim (b*2^s)).length)
 have hu1:=hWu.get (m-1+(lim (b*2^s)).length-1)
 have hu0:=hWu.get (m-1+(lim (b*2^s)).length-2)
 refine eV 0 89 (.slice rA ((u).length) rc) ?_
 refine eV 1 90 (.int .i64 (((m:Nat):Int)-1)) ?_
 refine eV 2 91 (.int .i64 ((lim (b*2^s)).length:Nat)) ?_
 refine eIn 3 92 ((((m:Nat):Int)-1)+((lim (b*2^s)).length:Nat)) (m-1+(lim (b*2^s)).length) ?_
 obtain ⟨bR64,hbR65⟩:=hs.rowA 0 (A:=rA) (c:=rc) (m:=(u).length) (ty:=159) (sz:=1) (cs:=(u).flatMap u32c) oM
 subst hbR65
 refine eX 4 93 (some ⟨bR64,0,none⟩) ((u).length) rc 1 (m-1+(lim (b*2^s)).length:Nat) (m-1+(lim (b*2^s)).length:Nat) rfl ?_
 refine eRq (ty:=159) (sz:=1) (c:=rc) (m:=(u).length) (b:=bR64) (cs:=(u).flatMap u32c) 5 94 0 (.int .u32 (u.getD (m-1+(lim (b*2^s)).length:Nat) 0:Nat)) (u32c (u.getD (m-1+(lim (b*2^s)).length:Nat) 0)) hs (row_el (f:=u32c) (sz:=1) (fun _=>rfl) 0 u (m-1+(lim (b*2^s)).length:Nat) oM) ?_
 refine eV 6 95 (.int .u64 (u.getD (m-1+(lim (b*2^s)).length:Nat) 0:Nat)) ?_ (hv:=fun _=>rint (n:=IntKind.wrap .u64 ((u.getD (m-1+(lim (b*2^s)).length:Nat) 0:Nat):Int)) kR (fitU64 oM oM))
 refine eV 7 96 (.int .u64 ((u.getD (m-1+(lim (b*2^s)).length:Nat) 0:Nat)*4294967296%18446744073709551616:Nat)) ?_ (hv:=fun _=>rint (n:=IntKind.wrap .u64 (((u.getD (m-1+(lim (b*2^s)).length:Nat) 0:Nat):Int)*4294967296)) kR (wMU64 (u.getD (m-1+(lim (b*2^s)).length:Nat) 0:Nat) 4294967296))
 refine eV 8 97 (.slice (some ⟨bR64,0,none⟩) ((u).length) rc) ?_
 refine eV 9 98 (.int .i64 (((m:Nat):Int)-1)) ?_
 refine eV 10 99 (.int .i64 ((lim (b*2^s)).length:Nat)) ?_
 refine eIn 11 100 ((((m:Nat):Int)-1)+((lim (b*2^s)).length:Nat)) (m-1+(lim (b*2^s)).length) ?_
 refine eIn 12 101 ((m-1+(lim (b*2^s)).length:Nat)-1) (m-1+(lim (b*2^s)).length-1) ?_
 refine eX 13 102 (some ⟨bR64,0,none⟩) ((u).length) rc 1 (m-1+(lim (b*2^s)).length-1:Nat) (m-1+(lim (b*2^s)).length-1:Nat) rfl ?_
 refine eRq (ty:=159) (sz:=1) (c:=rc) (m:=(u).length) (b:=bR64) (cs:=(u).flatMap u32c) 14 103 0 (.int .u32 (u.getD (m-1+(lim (b*2^s)).length-1:Nat) 0:Nat)) (u32c (u.getD (m-1+(lim (b*2^s)).length-1:Nat) 0)) hs (row_el (f:=u32c) (sz:=1) (fun _=>rfl) 0 u (m-1+(lim (b*2^s)).length-1:Nat) oM) ?_
 refine eV 15 104 (.int .u64 (u.getD (m-1+(lim (b*2^s)).length-1:Nat) 0:Nat)) ?_ (hv:=fun _=>rint (n:=IntKind.wrap .u64 ((u.getD (m-1+(lim (b*2^s)).length-1:Nat) 0:Nat):Int)) kR (fitU64 oM oM))
 refine eV 16 105 (.int .u64 ((u.getD (m-1+(lim (b*2^s)).length) 0)*4294967296+u.getD (m-1+(lim (b*2^s)).length-1) 0:Nat)) ?_ (hv:=fun _=>rint (opOr (t:=50) (u:=50) (x:=.tmp 96) (y:=.tmp 104) (a:=((u.getD (m-1+(lim (b*2^s)).length:Nat) 0:Nat)*4294967296%18446744073709551616:Nat)) (b:=(u.getD (m-1+(lim (b*2^s)).length-1:Nat) 0:Nat)) kR kR kR oM oM _) (by rw[Nat.mod_eq_of_lt (show (u.getD (m-1+(lim (b*2^s)).length) 0)*4294967296<18446744073709551616 by omega),or_lo2 hu1]))
 refine eD0 hs (fun w66 h67 hs=>?_)
 refine tV 17 16 (.int .u64 ((u.getD (m-1+(lim (b*2^s)).length) 0)*4294967296+u.getD (m-1+(lim (b*2^s)).length-1) 0:Nat)) ?_
 refine tNS ?_
 refine lL hs [.m 106 16,.m 107 12] (lV 108 (.int .u64 (((u.getD (m-1+(lim (b*2^s)).length) 0)*4294967296+u.getD (m-1+(lim (b*2^s)).length-1) 0:Nat)/((lim (b*2^s)).getD (((lim (b*2^s)).length:Nat)-1:Nat) 0:Nat):Nat)) ?_ (hr:=rint (opQuo (t:=50) (u:=50) (x:=.tmp 106) (y:=.tmp 107) (k:=.u64) (a:=(((u.getD (m-1+(lim (b*2^s)).length) 0)*4294967296+u.getD (m-1+(lim (b*2^s)).length-1) 0:Nat):Int)) (b:=(((lim (b*2^s)).getD (((lim (b*2^s)).length:Nat)-1:Nat) 0:Nat):Int)) kR kR kR oM _) (quoU64 ((u.getD (m-1+(lim (b*2^s)).length) 0)*4294967296+u.getD (m-1+(lim (b*2^s)).length-1) 0:Nat) ((lim (b*2^s)).getD (((lim (b*2^s)).length:Nat)-1:Nat) 0:Nat) oM)))
 refine lL hs [.m 17 108] (lNS (lL hs [.m 109 16,.m 110 12] (lV 111 (.int .u64 (((u.getD (m-1+(lim (b*2^s)).length) 0)*4294967296+u.getD (m-1+(lim (b*2^s)).length-1) 0:Nat)%((lim (b*2^s)).getD (((lim (b*2^s)).length:Nat)-1:Nat) 0:Nat):Nat)) ?_ (hr:=rint (opRem (t:=50) (u:=50) (x:=.tmp 109) (y:=.tmp 110) (k:=.u64) (a:=(((u.getD (m-1+(lim (b*2^s)).length) 0)*4294967296+u.getD (m-1+(lim (b*2^s)).length-1) 0:Nat):Int)) (b:=(((lim (b*2^s)).getD (((lim (b*2^s)).length:Nat)-1:Nat) 0:Nat):Int)) kR kR kR oM _) (tmodNat ((u.getD (m-1+(lim (b*2^s)).length) 0)*4294967296+u.getD (m-1+(lim (b*2^s)).length-1) 0:Nat) ((lim (b*2^s)).getD (((lim (b*2^s)).length:Nat)-1:Nat) 0:Nat))))))
 refine lL hs [.m 18 111] (lN (CG.join (fun Γ w_=>∃ (gq:Nat) (h_:Hp),Γ=[(4,.slice none 0 0),(5,.slice none 0 0),(8,.int .i64 (s:Nat)),(9,.slice A7 ((lim (b*2^s)).length) c8),(10,.slice (some ⟨bR64,0,none⟩) ((u).length) rc),(11,.int .i64 ((lim (b*2^s)).length:Nat)),(12,.int .u64 ((lim (b*2^s)).getD (((lim (b*2^s)).length:Nat)-1:Nat) 0:Nat)),(13,.int .u64 ((lim (b*2^s)).getD (((lim (b*2^s)).length:Nat)-2:Nat) 0:Nat)),(14,.slice (some ⟨b38,0,none⟩) (((lim (a*2^s)).length+2)-(lim (b*2^s)).length:Nat) (((lim (a*2^s)).length+2)-(lim (b*2^s)).length:Nat)),(15,.int .i64 (((m:Nat):Int)-1)),(17,.int .u64 (gq:Nat))]∧SS w h w_ h_ [⟨b38,159,(ql).flatMap u32c⟩] [⟨159,1,some ⟨bR64,0,none⟩,rc,(u).length,(u).flatMap u32c⟩] [fun h_=>SlO 1 u32c 0 h_ (some ⟨b28,0,none⟩) ([0,0]),fun h_=>Seg h_ b28 0 ([.int .u32 0,.int .u32 0]),fun h_=>SlO 1 u32c 0 h_ A17 (lim (a*2^s)),fun h_=>Seg h_ b13 0 ([]),fun h_=>SlO 1 u32c 0 h_ A7 (lim (b*2^s)),fun h_=>SlO 1 u32c 0 h_ D (lim b),fun h_=>SlO 1 u32c 0 h_ A (lim a)]∧(HssR (u.getD (m-1+(lim (b*2^s)).length) 0) (u.getD (m-1+(lim (b*2^s)).length-1) 0) (u.getD (m-1+(lim (b*2^s)).length-2) 0) ((lim (b*2^s)).getD ((lim (b*2^s)).length-1) 0) ((lim (b*2^s)).getD ((lim (b*2^s)).length-2) 0) gq)) ?_ ?_))
 ·
  refine CG.block (cTo [(4,.slice none 0 0),(5,.slice none 0 0),(8,.int .i64 (s:Nat)),(9,.slice A7 ((lim (b*2^s)).length) c8),(10,.slice (some ⟨bR64,0,none⟩) ((u).length) rc),(11,.int .i64 ((lim (b*2^s)).length:Nat)),(12,.int .u64 ((lim (b*2^s)).getD (((lim (b*2^s)).length:Nat)-1:Nat) 0:Nat)),(13,.int .u64 ((lim (b*2^s)).getD (((lim (b*2^s)).length:Nat)-2:Nat) 0:Nat)),(14,.slice (some ⟨b38,0,none⟩) (((lim (a*2^s)).length+2)-(lim (b*2^s)).length:Nat) (((lim (a*2^s)).length+2)-(lim (b*2^s)).length:Nat)),(15,.int .i64 (((m:Nat):Int)-1)),(17,.int .u64 (((u.getD (m-1+(lim (b*2^s)).length) 0)*4294967296+u.getD (m-1+(lim (b*2^s)).length-1) 0:Nat)/((lim (b*2^s)).getD (((lim (b*2^s)).length:Nat)-1:Nat) 0:Nat):Nat)),(18,.int .u64 (((u.getD (m-1+(lim (b*2^s)).length) 0)*4294967296+u.getD (m-1+(lim (b*2^s)).length-1) 0:Nat)%((lim (b*2^s)).getD (((lim (b*2^s)).length:Nat)-1:Nat) 0:Nat):Nat))] ?_)
  refine CG.loop (fun μ_ Γ w_=>∃ (g:Nat) (rh:Nat) (h_:Hp),μ_=g∧Γ=[(4,.slice none 0 0),(5,.slice none 0 0),(8,.int .i64 (s:Nat)),(9,.slice A7 ((lim (b*2^s)).length) c8),(10,.slice (some ⟨bR64,0,none⟩) ((u).length) rc),(11,.int .i64 ((lim (b*2^s)).length:Nat)),(12,.int .u64 ((lim (b*2^s)).getD (((lim (b*2^s)).length:Nat)-1:Nat) 0:Nat)),(13,.int .u64 ((lim (b*2^s)).getD (((lim (b*2^s)).length:Nat)-2:Nat) 0:Nat)),(14,.slice (some ⟨b38,0,none⟩) (((lim (a*2^s)).length+2)-(lim (b*2^s)).length:Nat) (((lim (a*2^s)).length+2)-(lim (b*2^s)).length:Nat)),(15,.int .i64 (((m:Nat):Int)-1)),(17,.int .u64 (g:Nat)),(18,.int .u64 (rh:Nat))]∧SS w h w_ h_ [⟨b38,159,(ql).flatMap u32c⟩] [⟨159,1,some ⟨bR64,0,none⟩,rc,(u).length,(u).flatMap u32c⟩] [fun h_=>SlO 1 u32c 0 h_ (some ⟨b28,0,none⟩) ([0,0]),fun h_=>Seg h_ b28 0 ([.int .u32 0,.int .u32 0]),fun h_=>SlO 1 u32c 0 h_ A17 (lim (a*2^s)),fun h_=>Seg h_ b13 0 ([]),fun h_=>SlO 1 u32c 0 h_ A7 (lim (b*2^s)),fun h_=>SlO 1 u32c 0 h_ D (lim b),fun h_=>SlO 1 u32c 0 h_ A (lim a)]∧(Gk (u.getD (m-1+(lim (b*2^s)).length) 0) (u.getD (m-1+(lim (b*2^s)).length-1) 0) (u.getD (m-1+(lim (b*2^s)).length-2) 0) ((lim (b*2^s)).getD ((lim (b*2^s)).length-1) 0) ((lim (b*2^s)).getD ((lim (b*2^s)).length-2) 0) g rh)∧(rh<4294967296)∧(g<18446744073709551616)) _ ⟨(((u.getD (m-1+(lim (b*2^s)).length) 0)*4294967296+u.getD (m-1+(lim (b*2^s)).length-1) 0:Nat)/((lim (b*2^s)).getD (((lim (b*2^s)).length:Nat)-1:Nat) 0:Nat):Nat),(((u.getD (m-1+(lim (b*2^s)).length) 0)*4294967296+u.getD (m-1+(lim (b*2^s)).length-1) 0:Nat)%((lim (b*2^s)).getD (((lim (b*2^s)).length:Nat)-1:Nat) 0:Nat):Nat),h67,rfl,rfl,hs.to _ _,(Gk.start oM hu0),(by have:=Nat.mod_lt (u.getD (m-1+(lim (b*2^s)).length) 0*4294967296+u.getD (m-1+(lim (b*2^s)).length-1) 0) (show 0<(lim (b*2^s)).getD ((lim (b*2^s)).length-1) 0 by omega);omega),(by have:=Nat.div_le_self ((u.getD (m-1+(lim (b*2^s)).length) 0)*4294967296+u.getD (m-1+(lim (b*2^s)).length-1) 0) ((lim (b*2^s)).getD ((lim (b*2^s)).length-1) 0);omega)⟩ ?_
  rintro _ _ w68 ⟨g,rh,h69,hm70,rfl,hs,hG,hrh,hgb⟩
  have hbig:=fun hg=>hG.big hg hle hu1
  refine CG.seq (cSL (lL hs [.m 112 17] ?_))
  cases hb71:(decide ((4294967296:Int)≤((g:Nat):Int)))
  ·
   have phb71:=oF hb71
   refine lB 113 hb71 ?_
   refine lL hs [.m 114 113,.m 115 18] ?_
   cases hb72:(decide (((rh:Nat):Int)<(4294967296:Int)))
   ·
    have phb72:=oF hb72
    refine lB 116 hb72 ?_
    refine lL hs [.m 117 116] (lG 118 ?_)
    refine lG 119 ?_
    refine lG 120 ?_
    refine lG 121 ?_
    refine lG 122 ?_
    refine lG 123 ?_
    refine lG 124 ?_
    refine lG 125 ?_
    refine lG 126 ?_
    refine lG 127 ?_
    refine lG 128 ?_
    refine lG 129 ?_
    refine lG 130 ?_
    refine lG 131 ?_
    refine lG 132 ?_
    refine lL hs [.v 133 (.bool false),.v 134 (.bool false)] (lN (cIF (CG.exit ?_)))
    intro a_ ka
    have q73:HssR (u.getD (m-1+(lim (b*2^s)).length) 0) (u.getD (m-1+(lim (b*2^s)).length-1) 0) (u.getD (m-1+(lim (b*2^s)).length-2) 0) ((lim (b*2^s)).getD ((lim (b*2^s)).length-1) 0) ((lim (b*2^s)).getD ((lim (b*2^s)).length-2) 0) g:=hG.fin oM hv0 (by first|exact .inr oM|exact .inl oM)
    exact ⟨_,⟨g,h69,rfl,hs.to _ _,q73⟩,ka.to [(4,.slice none 0 0),(5,.slice none 0 0),(8,.int .i64 (s:Nat)),(9,.slice A7 ((lim (b*2^s)).length) c8),(10,.slice (some ⟨bR64,0,none⟩) ((u).length) rc),(11,.int .i64 ((lim (b*2^s)).length:Nat)),(12,.int .u64 ((lim (b*2^s)).getD (((lim (b*2^s)).length:Nat)-1:Nat) 0:Nat)),(13,.int .u64 ((lim (b*2^s)).getD (((lim (b*2^s)).length:Nat)-2:Nat) 0:Nat)),(14,.slice (some ⟨b38,0,none⟩) (((lim (a*2^s)).length+2)-(lim (b*2^s)).length:Nat) (((lim (a*2^s)).length+2)-(lim (b*2^s)).length:Nat)),(15,.int .i64 (((m:Nat):Int)-1)),(17,.int .u64 (g:Nat))] kR⟩
   have phb72:=oT hb72
   refine lB 116 hb72 ?_
   refine lL hs [.m 117 116,.m 118 17,.m 119 13] (lV 120 (.int .u64 (g*((lim (b*2^s)).getD (((lim (b*2^s)).length:Nat)-2:Nat) 0:Nat):Nat)) ?_ (hr:=rint (n:=IntKind.wrap .u64 (((g:Nat):Int)*(((lim (b*2^s)).getD (((lim (b*2^s)).length:Nat)-2:Nat) 0:Nat):Int))) kR (fMU64 g ((lim (b*2^s)).getD (((lim (b*2^s)).length:Nat)-2:Nat) 0:Nat) (by have:=mulLB (show g<4294967296 by omega) hv0;omega))))
   refine lL hs [.m 121 18] (lV 122 (.int .u64 (rh*4294967296:Nat)) ?_ (hr:=rint (n:=IntKind.wrap .u64 (((rh:Nat):Int)*4294967296)) kR ((fitU64 oM oM).trans oM)))
   refine lL hs [.m 123 10,.m 124 15,.m 125 11] (lIn 126 ((((m:Nat):Int)-1)+((lim (b*2^s)).length:Nat)) (m-1+(lim (b*2^s)).length) ?_)
   refine lIn 127 ((m-1+(lim (b*2^s)).length:Nat)-2) (m-1+(lim (b*2^s)).length-2) ?_
   refine lX 128 (some ⟨bR64,0,none⟩) ((u).length) rc 1 (m-1+(lim (b*2^s)).length-2:Nat) (m-1+(lim (b*2^s)).length-2:Nat) rfl ?_
   refine lRq (ty:=159) (sz:=1) (c:=rc) (m:=(u).length) (b:=bR64) (cs:=(u).flatMap u32c) 129 0 (.int .u32 (u.getD (m-1+(lim (b*2^s)).length-2:Nat) 0:Nat)) (u32c (u.getD (m-1+(lim (b*2^s)).length-2:Nat) 0)) hs (row_el (f:=u32c) (sz:=1) (fun _=>rfl) 0 u (m-1+(lim (b*2^s)).length-2:Nat) oM) ?_
   refine lV 130 (.int .u64 (u.getD (m-1+(lim (b*2^s)).length-2:Nat) 0:Nat)) ?_ (hr:=rint (n:=IntKind.wrap .u64 ((u.getD (m-1+(lim (b*2^s)).length-2:Nat) 0:Nat):Int)) kR (fitU64 oM oM))
   refine lV 131 (.int .u64 (rh*4294967296+u.getD (m-1+(lim (b*2^s)).length-2) 0:Nat)) ?_ (hr:=rint (opOr (t:=50) (u:=50) (x:=.tmp 122) (y:=.tmp 130) (a:=(rh*4294967296)) (b:=(u.getD (m-1+(lim (b*2^s)).length-2:Nat) 0:Nat)) kR kR kR oM oM _) (by rw[or_lo2 hu0]))
   cases hb74:(decide (((rh*4294967296+u.getD (m-1+(lim (b*2^s)).length-2) 0:Nat):Int)<((g*((lim (b*2^s)).getD (((lim (b*2^s)).length:Nat)-2:Nat) 0:Nat):Nat):Int)))
   ·
    have phb74:=oF hb74
    refine lB 132 hb74 ?_
    refine lL hs [.v 133 (.bool false),.v 134 (.bool false)] (lN (cIF (CG.exit ?_)))
    intro a_ ka
    have q75:HssR (u.getD (m-1+(lim (b*2^s)).length) 0) (u.getD (m-1+(lim (b*2^s)).length-1) 0) (u.getD (m-1+(lim (b*2^s)).length-2) 0) ((lim (b*2^s)).getD ((lim (b*2^s)).length-1) 0) ((lim (b*2^s)).getD ((lim (b*2^s)).length-2) 0) g:=hG.fin oM hv0 (by first|exact .inr oM|exact .inl oM)
    exact ⟨_,⟨g,h69,rfl,hs.to _ _,q75⟩,ka.to [(4,.slice none 0 0),(5,.slice none 0 0),(8,.int .i64 (s:Nat)),(9,.slice A7 ((lim (b*2^s)).length) c8),(10,.slice (some ⟨bR64,0,none⟩) ((u).length) rc),(11,.int .i64 ((lim (b*2^s)).length:Nat)),(12,.int .u64 ((lim (b*2^s)).getD (((lim (b*2^s)).length:Nat)-1:Nat) 0:Nat)),(13,.int .u64 ((lim (b*2^s)).getD (((lim (b*2^s)).length:Nat)-2:Nat) 0:Nat)),(14,.slice (some ⟨b38,0,none⟩) (((lim (a*2^s)).length+2)-(lim (b*2^s)).length:Nat) (((lim (a*2^s)).length+2)-(lim (b*2^s)).length:Nat)),(15,.int .i64 (((m:Nat):Int)-1)),(17,.int .u64 (g:Nat))] kR⟩
   have phb74:=oT hb74
   refine lB 132 hb74 ?_
   refine lL hs [.v 133 (.bool true),.v 134 (.bool true)] (lN (cIT (CG.skipN (CG.block (cSL ?_)))))
   have hG2:Gk (u.getD (m-1+(lim (b*2^s)).length) 0) (u.getD (m-1+(lim (b*2^s)).length-1) 0) (u.getD (m-1+(lim (b*2^s)).length-2) 0) ((lim (b*2^s)).getD ((lim (b*2^s)).length-1) 0) ((lim (b*2^s)).getD ((lim (b*2^s)).length-2) 0) (g-1) (rh+(lim (b*2^s)).getD ((lim (b*2^s)).length-1) 0):=by first|exact hG.decB oM|exact (hG.decT oM).2
   have hg0:0<g:=by first|omega|exact (hG.decT oM).1
   refine lL hs [.m 135 17] (lV 136 (.int .u64 (g-1:Nat)) ?_ (hr:=rint (n:=IntKind.wrap .u64 (((g:Nat):Int)-(1:Int))) kR (fSU64 g 1 oM oM)))
   refine lL hs [.m 17 136] (lNS (lL hs [.m 137 18,.m 138 12] (lV 139 (.int .u64 (rh+((lim (b*2^s)).getD (((lim (b*2^s)).length:Nat)-1:Nat) 0:Nat):Nat)) ?_ (hr:=rint (n:=IntKind.wrap .u64 (((rh:Nat):Int)+(((lim (b*2^s)).getD (((lim (b*2^s)).length:Nat)-1:Nat) 0:Nat):Int))) kR (fAU64 rh ((lim (b*2^s)).getD (((lim (b*2^s)).length:Nat)-1:Nat) 0:Nat) oM)))))
   refine lL hs [.m 18 139] (lNS (lL hs [.m 140 18] ?_))
   cases hb76:(decide ((4294967296:Int)≤((rh+((lim (b*2^s)).getD (((lim (b*2^s)).length:Nat)-1:Nat) 0:Nat):Nat):Int)))
   ·
    have phb76:=oF hb76
    refine lB 141 hb76 ?_
    refine lN (cTo [(4,.slice none 0 0),(5,.slice none 0 0),(8,.int .i64 (s:Nat)),(9,.slice A7 ((lim (b*2^s)).length) c8),(10,.slice (some ⟨bR64,0,none⟩) ((u).length) rc),(11,.int .i64 ((lim (b*2^s)).length:Nat)),(12,.int .u64 ((lim (b*2^s)).getD (((lim (b*2^s)).length:Nat)-1:Nat) 0:Nat)),(13,.int .u64 ((lim (b*2^s)).getD (((lim (b*2^s)).length:Nat)-2:Nat) 0:Nat)),(14,.slice (some ⟨b38,0,none⟩) (((lim (a*2^s)).length+2)-(lim (b*2^s)).length:Nat) (((lim (a*2^s)).length+2)-(lim (b*2^s)).length:Nat)),(15,.int .i64 (((m:Nat):Int)-1)),(17,.int .u64 (g-1:Nat)),(18,.int .u64 (rh+((lim (b*2^s)).getD (((lim (b*2^s)).length:Nat)-1:Nat) 0:Nat):Nat)),(141,.bool false)] ?_)
    refine cIF (CG.skip ?_)
    intro a_ ka
    have q77:Gk (u.getD (m-1+(lim (b*2^s)).length) 0) (u.getD (m-1+(lim (b*2^s)).length-1) 0) (u.getD (m-1+(lim (b*2^s)).length-2) 0) ((lim (b*2^s)).getD ((lim (b*2^s)).length-1) 0) ((lim (b*2^s)).getD ((lim (b*2^s)).length-2) 0) (g-1) (rh+((lim (b*2^s)).getD (((lim (b*2^s)).length:Nat)-1:Nat) 0:Nat):Nat):=hG2
    have q78:(rh+((lim (b*2^s)).getD (((lim (b*2^s)).length:Nat)-1:Nat) 0:Nat):Nat)<4294967296:=oM
    have q79:(g-1)<18446744073709551616:=oM
    refine ⟨_,_,?_,⟨g-1,(rh+((lim (b*2^s)).getD (((lim (b*2^s)).length:Nat)-1:Nat) 0:Nat):Nat),h69,rfl,rfl,hs.to _ _,q77,q78,q79⟩,ka.to [(4,.slice none 0 0),(5,.slice none 0 0),(8,.int .i64 (s:Nat)),(9,.slice A7 ((lim (b*2^s)).length) c8),(10,.slice (some ⟨bR64,0,none⟩) ((u).length) rc),(11,.int .i64 ((lim (b*2^s)).length:Nat)),(12,.int .u64 ((lim (b*2^s)).getD (((lim (b*2^s)).length:Nat)-1:Nat) 0:Nat)),(13,.int .u64 ((lim (b*2^s)).getD (((lim (b*2^s)).length:Nat)-2:Nat) 0:Nat)),(14,.slice (some ⟨b38,0,none⟩) (((lim (a*2^s)).length+2)-(lim (b*2^s)).length:Nat) (((lim (a*2^s)).length+2)-(lim (b*2^s)).length:Nat)),(15,.int .i64 (((m:Nat):Int)-1)),(17,.int .u64 ((g-1):Nat)),(18,.int .u64 ((rh+((lim (b*2^s)).getD (((lim (b*2^s)).length:Nat)-1:Nat) 0:Nat):Nat):Nat))] kR⟩
    omega
   have phb76:=oT hb76
   refine lB 141 hb76 ?_
   refine lN (cTo [(4,.slice none 0 0),(5,.slice none 0 0),(8,.int .i64 (s:Nat)),(9,.slice A7 ((lim (b*2^s)).length) c8),(10,.slice (some ⟨bR64,0,none⟩) ((u).length) rc),(11,.int .i64 ((lim (b*2^s)).length:Nat)),(12,.int .u64 ((lim (b*2^s)).getD (((lim (b*2^s)).length:Nat)-1:Nat) 0:Nat)),(13,.int .u64 ((lim (b*2^s)).getD (((lim (b*2^s)).length:Nat)-2:Nat) 0:Nat)),(14,.slice (some ⟨b38,0,none⟩) (((lim (a*2^s)).length+2)-(lim (b*2^s)).length:Nat) (((lim (a*2^s)).length+2)-(lim (b*2^s)).length:Nat)),(15,.int .i64 (((m:Nat):Int)-1)),(17,.int .u64 (g-1:Nat)),(18,.int .u64 (rh+((lim (b*2^s)).getD (((lim (b*2^s)).length:Nat)-1:Nat) 0:Nat):Nat)),(141,.bool true)] ?_)
   refine cIT (CG.exit ?_)
   have hbig2:=fun hg=>hG2.big hg hle hu1
   intro a_ ka
   have q80:HssR (u.getD (m-1+(lim (b*2^s)).length) 0) (u.getD (m-1+(lim (b*2^s)).length-1) 0) (u.getD (m-1+(lim (b*2^s)).length-2) 0) ((lim (b*2^s)).getD ((lim (b*2^s)).length-1) 0) ((lim (b*2^s)).getD ((lim (b*2^s)).length-2) 0) (g-1):=hG2.fin oM hv0 (.inl oM)
   exact ⟨_,⟨(g-1),h69,rfl,hs.to _ _,q80⟩,ka.to [(4,.slice none 0 0),(5,.slice none 0 0),(8,.int .i64 (s:Nat)),(9,.slice A7 ((lim (b*2^s)).length) c8),(10,.slice (some ⟨bR64,0,none⟩) ((u).length) rc),(11,.int .i64 ((lim (b*2^s)).length:Nat)),(12,.int .u64 ((lim (b*2^s)).getD (((lim (b*2^s)).length:Nat)-1:Nat) 0:Nat)),(13,.int .u64 ((lim (b*2^s)).getD (((lim (b*2^s)).length:Nat)-2:Nat) 0:Nat)),(14,.slice (some ⟨b38,0,none⟩) (((lim (a*2^s)).length+2)-(lim (b*2^s)).length:Nat) (((lim (a*2^s)).length+2)-(lim (b*2^s)).length:Nat)),(15,.int .i64 (((m:Nat):Int)-1)),(17,.int .u64 ((g-1):Nat))] kR⟩
  have phb71:=oT hb71
  refine lB 113 hb71 ?_
  refine lL hs [.m 114 113] (lG 115 ?_)
  refine lG 116 ?_
  refine lG 117 ?_
  refine lG 118 ?_
  refine lG 119 ?_
  refine lG 120 ?_
  refine lG 121 ?_
  refine lG 122 ?_
  refine lG 123 ?_
  refine lG 124 ?_
  refine lG 125 ?_
  refine lG 126 ?_
  refine lG 127 ?_
  refine lG 128 ?_
  refine lG 129 ?_
  refine lG 130 ?_
  refine lG 131 ?_
  refine lG 132 ?_
  refine lG 133 ?_
  refine lL hs [.v 134 (.bool true)] (lN (cIT (CG.skipN (CG.block (cSL ?_)))))
  have hG2:Gk (u.getD (m-1+(lim (b*2^s)).length) 0) (u.getD (m-1+(lim (b*2^s)).length-1) 0) (u.getD (m-1+(lim (b*2^s)).length-2) 0) ((lim (b*2^s)).getD ((lim (b*2^s)).length-1) 0) ((lim (b*2^s)).getD ((lim (b*2^s)).length-2) 0) (g-1) (rh+(lim (b*2^s)).getD ((lim (b*2^s)).length-1) 0):=by first|exact hG.decB oM|exact (hG.decT oM).2
  have hg0:0<g:=by first|omega|exact (hG.decT oM).1
  refine lL hs [.m 135 17] (lV 136 (.int .u64 (g-1:Nat)) ?_ (hr:=rint (n:=IntKind.wrap .u64 (((g:Nat):Int)-(1:Int))) kR (fSU64 g 1 oM oM)))
  refine lL hs [.m 17 136] (lNS (lL hs [.m 137 18,.m 138 12] (lV 139 (.int .u64 (rh+((lim (b*2^s)).getD (((lim (b*2^s)).length:Nat)-1:Nat) 0:Nat):Nat)) ?_ (hr:=rint (n:=IntKind.wrap .u64 (((rh:Nat):Int)+(((lim (b*2^s)).getD (((lim (b*2^s)).length:Nat)-1:Nat) 0:Nat):Int))) kR (fAU64 rh ((lim (b*2^s)).getD (((lim (b*2^s)).length:Nat)-1:Nat) 0:Nat) oM)))))
  refine lL hs [.m 18 139] (lNS (lL hs [.m 140 18] ?_))
  cases hb81:(decide ((4294967296:Int)≤((rh+((lim (b*2^s)).getD (((lim (b*2^s)).length:Nat)-1:Nat) 0:Nat):Nat):Int)))
  ·
   have phb81:=oF hb81
   refine lB 141 hb81 ?_
   refine lN (cTo [(4,.slice none 0 0),(5,.slice none 0 0),(8,.int .i64 (s:Nat)),(9,.slice A7 ((lim (b*2^s)).length) c8),(10,.slice (some ⟨bR64,0,none⟩) ((u).length) rc),(11,.int .i64 ((lim (b*2^s)).length:Nat)),(12,.int .u64 ((lim (b*2^s)).getD (((lim (b*2^s)).length:Nat)-1:Nat) 0:Nat)),(13,.int .u64 ((lim (b*2^s)).getD (((lim (b*2^s)).length:Nat)-2:Nat) 0:Nat)),(14,.slice (some ⟨b38,0,none⟩) (((lim (a*2^s)).length+2)-(lim (b*2^s)).length:Nat) (((lim (a*2^s)).length+2)-(lim (b*2^s)).length:Nat)),(15,.int .i64 (((m:Nat):Int)-1)),(17,.int .u64 (g-1:Nat)),(18,.int .u64 (rh+((lim (b*2^s)).getD (((lim (b*2^s)).length:Nat)-1:Nat) 0:Nat):Nat)),(141,.bool false)] ?_)
   refine cIF (CG.skip ?_)
   intro a_ ka
   have q82:Gk (u.getD (m-1+(lim (b*2^s)).length) 0) (u.getD (m-1+(lim (b*2^s)).length-1) 0) (u.getD (m-1+(lim (b*2^s)).length-2) 0) ((lim (b*2^s)).getD ((lim (b*2^s)).length-1) 0) ((lim (b*2^s)).getD ((lim (b*2^s)).length-2) 0) (g-1) (rh+((lim (b*2^s)).getD (((lim (b*2^s)).length:Nat)-1:Nat) 0:Nat):Nat):=hG2
   have q83:(rh+((lim (b*2^s)).getD (((lim (b*2^s)).length:Nat)-1:Nat) 0:Nat):Nat)<4294967296:=oM
   have q84:(g-1)<18446744073709551616:=oM
   refine ⟨_,_,?_,⟨g-1,(rh+((lim (b*2^s)).getD (((lim (b*2^s)).length:Nat)-1:Nat) 0:Nat):Nat),h69,rfl,rfl,hs.to _ _,q82,q83,q84⟩,ka.to [(4,.slice none 0 0),(5,.slice none 0 0),(8,.int .i64 (s:Nat)),(9,.slice A7 ((lim (b*2^s)).length) c8),(10,.slice (some ⟨bR64,0,none⟩) ((u).length) rc),(11,.int .i64 ((lim (b*2^s)).length:Nat)),(12,.int .u64 ((lim (b*2^s)).getD (((lim (b*2^s)).length:Nat)-1:Nat) 0:Nat)),(13,.int .u64 ((lim (b*2^s)).getD (((lim (b*2^s)).length:Nat)-2:Nat) 0:Nat)),(14,.slice (some ⟨b38,0,none⟩) (((lim (a*2^s)).length+2)-(lim (b*2^s)).length:Nat) (((lim (a*2^s)).length+2)-(lim (b*2^s)).length:Nat)),(15,.int .i64 (((m:Nat):Int)-1)),(17,.int .u64 ((g-1):Nat)),(18,.int .u64 ((rh+((lim (b*2^s)).getD (((lim (b*2^s)).length:Nat)-1:Nat) 0:Nat):Nat):Nat))] kR⟩
   omega
  have phb81:=oT hb81
  refine lB 141 hb81 ?_
  refine lN (cTo [(4,.slice none 0 0),(5,.slice none 0 0),(8,.int .i64 (s:Nat)),(9,.slice A7 ((lim (b*2^s)).length) c8),(10,.slice (some ⟨bR64,0,none⟩) ((u).length) rc),(11,.int .i64 ((lim (b*2^s)).length:Nat)),(12,.int .u64 ((lim (b*2^s)).getD (((lim (b*2^s)).length:Nat)-1:Nat) 0:Nat)),(13,.int .u64 ((lim (b*2^s)).getD (((lim (b*2^s)).length:Nat)-2:Nat) 0:Nat)),(14,.slice (some ⟨b38,0,none⟩) (((lim (a*2^s)).length+2)-(lim (b*2^s)).length:Nat) (((lim (a*2^s)).length+2)-(lim (b*2^s)).length:Nat)),(15,.int .i64 (((m:Nat):Int)-1)),(17,.int .u64 (g-1:Nat)),(18,.int .u64 (rh+((lim (b*2^s)).getD (((lim (b*2^s)).length:Nat)-1:Nat) 0:Nat):Nat)),(141,.bool true)] ?_)
  refine cIT (CG.exit ?_)
  have hbig2:=fun hg=>hG2.big hg hle hu1
  intro a_ ka
  have q85:HssR (u.getD (m-1+(lim (b*2^s)).length) 0) (u.getD (m-1+(lim (b*2^s)).length-1) 0) (u.getD (m-1+(lim (b*2^s)).length-2) 0) ((lim (b*2^s)).getD ((lim (b*2^s)).length-1) 0) ((lim (b*2^s)).getD ((lim (b*2^s)).length-2) 0) (g-1):=hG2.fin oM hv0 (.inl oM)
  exact ⟨_,⟨(g-1),h69,rfl,hs.to _ _,q85⟩,ka.to [(4,.slice none 0 0),(5,.slice none 0 0),(8,.int .i64 (s:Nat)),(9,.slice A7 ((lim (b*2^s)).length) c8),(10,.slice (some ⟨bR64,0,none⟩) ((u).length) rc),(11,.int .i64 ((lim (b*2^s)).length:Nat)),(12,.int .u64 ((lim (b*2^s)).getD (((lim (b*2^s)).length:Nat)-1:Nat) 0:Nat)),(13,.int .u64 ((lim (b*2^s)).getD (((lim (b*2^s)).length:Nat)-2:Nat) 0:Nat)),(14,.slice (some ⟨b38,0,none⟩) (((lim (a*2^s)).length+2)-(lim (b*2^s)).length:Nat) (((lim (a*2^s)).length+2)-(lim (b*2^s)).length:Nat)),(15,.int .i64 (((m:Nat):Int)-1)),(17,.int .u64 ((g-1):Nat))] kR⟩
 rintro _ w86 ⟨gq,h87,rfl,hs,hH⟩
 refine cSL ?_
 have hgl:=hH.2.2
 have hGd:=dl_guess (n:=(lim (b*2^s)).length) (j:=m-1) hn2 rfl hWv hWu hjn htop hR1 hH
 refine lL hs [.v 19 (.int .u64 0)] (lNS (lL hs [.v 20 (.int .u64 0)] (lN (CG.seq (cSL (lL hs [.v 21 (.int .i64 0)] (lN (CG.block (cTo [(4,.slice none 0 0),(5,.slice none 0 0),(8,.int .i64 (s:Nat)),(9,.slice A7 ((lim (b*2^s)).length) c8),(10,.slice (some ⟨bR64,0,none⟩) ((u).length) rc),(11,.int .i64 ((lim (b*2^s)).length:Nat)),(12,.int .u64 ((lim (b*2^s)).getD (((lim (b*2^s)).length:Nat)-1:Nat) 0:Nat)),(13,.int .u64 ((lim (b*2^s)).getD (((lim (b*2^s)).length:Nat)-2:Nat) 0:Nat)),(14,.slice (some ⟨b38,0,none⟩) (((lim (a*2^s)).length+2)-(lim (b*2^s)).length:Nat) (((lim (a*2^s)).length+2)-(lim (b*2^s)).length:Nat)),(15,.int .i64 (((m:Nat):Int)-1)),(17,.int .u64 (gq:Nat)),(21,.int .i64 0),(19,.int .u64 0),(20,.int .u64 0)] ?_)))))))))
 refine CG.loop (fun μ_ Γ w_=>∃ (i:Nat) (raA:Option Addr) (rac:Nat) (ua:List Nat) (cy:Nat) (bo:Nat) (h_:Hp),μ_=(lim (b*2^s)).length-i∧Γ=[(4,.slice none 0 0),(5,.slice none 0 0),(8,.int .i64 (s:Nat)),(9,.slice A7 ((lim (b*2^s)).length) c8),(10,.slice raA ((ua).length) rac),(11,.int .i64 ((lim (b*2^s)).length:Nat)),(12,.int .u64 ((lim (b*2^s)).getD (((lim (b*2^s)).length:Nat)-1:Nat) 0:Nat)),(13,.int .u64 ((lim (b*2^s)).getD (((lim (b*2^s)).length:Nat)-2:Nat) 0:Nat)),(14,.slice (some ⟨b38,0,none⟩) (((lim (a*2^s)).length+2)-(lim (b*2^s)).length:Nat) (((lim (a*2^s)).length+2)-(lim (b*2^s)).length:Nat)),(15,.int .i64 (((m:Nat):Int)-1)),(17,.int .u64 (gq:Nat)),(21,.int .i64 (i:Nat)),(19,.int .u64 (cy:Nat)),(20,.int .u64 (bo:Nat))]∧SS w h w_ h_ [⟨b38,159,(ql).flatMap u32c⟩] [⟨159,1,raA,rac,(ua).length,(ua).flatMap u32c⟩] [fun h_=>SlO 1 u32c 0 h_ (some ⟨b28,0,none⟩) ([0,0]),fun h_=>Seg h_ b28 0 ([.int .u32 0,.int .u32 0]),fun h_=>SlO 1 u32c 0 h_ A17 (lim (a*2^s)),fun h_=>Seg h_ b13 0 ([]),fun h_=>SlO 1 u32c 0 h_ A7 (lim (b*2^s)),fun h_=>SlO 1 u32c 0 h_ D (lim b),fun h_=>SlO 1 u32c 0 h_ A (lim a)]∧(i≤(lim (b*2^s)).length)∧(ua.length=((lim (a*2^s)).length+2))∧(Ld ua)∧(cy<4294967296)∧(bo≤1)∧(bval 4294967296 ua+4294967296^(m-1)*(gq*bval 4294967296 ((lim (b*2^s)).take i))=lval u+4294967296^(m-1+i)*(cy+bo))∧(Above ua u (m-1+(lim (b*2^s)).length+1))) _ ⟨0,some ⟨bR64,0,none⟩,rc,u,0,0,h87,rfl,rfl,hs.to _ _,Nat.zero_le _,hul,hWu,oM,oM,(by show bval _ u+_=bval _ u+_;simp[bval]),Above.refl _ _⟩ ?_
 rintro _ _ w88 ⟨i,raA,rac,ua,cy,bo,h89,hm90,rfl,hs,hi,hua,hWa,hcy,hbo,inv1,hab1⟩
 have huak:=hWa.get (m-1+i)
 have hvi:=hWv.get i
 refine CG.seq (cSL (lL hs [.m 142 21,.m 143 11] ?_))
 cases hb91:(decide (((i:Nat):Int)<(((lim (b*2^s)).length:Nat):Int)))
 ·
  have phb91:=oF hb91
  refine lB 144 hb91 ?_
  refine lN (cIF (CG.exit ?_))
  show CG _ _ _ _ _ _ _ _
  refine cSL ?_
  have huan:=hWa.get (m-1+(lim (b*2^s)).length)
  refine lL hs [.m 179 10,.m 180 15,.m 181 11] (lIn 182 ((((m:Nat):Int)-1)+((lim (b*2^s)).length:Nat)) (m-1+(lim (b*2^s)).length) ?_)
  obtain ⟨bR92,hbR93⟩:=hs.rowA 0 (A:=raA) (c:=rac) (m:=(ua).length) (ty:=159) (sz:=1) (cs:=(ua).flatMap u32c) oM
  subst hbR93
  refine lX 183 (some ⟨bR92,0,none⟩) ((ua).length) rac 1 (m-1+(lim (b*2^s)).length:Nat) (m-1+(lim (b*2^s)).length:Nat) rfl ?_
  refine lRq (ty:=159) (sz:=1) (c:=rac) (m:=(ua).length) (b:=bR92) (cs:=(ua).flatMap u32c) 184 0 (.int .u32 (ua.getD (m-1+(lim (b*2^s)).length:Nat) 0:Nat)) (u32c (ua.getD (m-1+(lim (b*2^s)).length:Nat) 0)) hs (row_el (f:=u32c) (sz:=1) (fun _=>rfl) 0 ua (m-1+(lim (b*2^s)).length:Nat) oM) ?_
  refine lV 185 (.int .u64 (ua.getD (m-1+(lim (b*2^s)).length:Nat) 0:Nat)) ?_ (hr:=rint (n:=IntKind.wrap .u64 ((ua.getD (m-1+(lim (b*2^s)).length:Nat) 0:Nat):Int)) kR (fitU64 oM oM))
  refine lL hs [.m 186 19] (lV 187 (.int .u64 (((ua.getD (m-1+(lim (b*2^s)).length:Nat) 0:Nat)+(18446744073709551616-cy))%18446744073709551616:Nat)) ?_ (hr:=rint (n:=IntKind.wrap .u64 (((ua.getD (m-1+(lim (b*2^s)).length:Nat) 0:Nat):Int)-((cy:Nat):Int))) kR (wSU64 (ua.getD (m-1+(lim (b*2^s)).length:Nat) 0:Nat) cy oM)))
  refine lL hs [.m 188 20] (lV 189 (.int .u64 (((((ua.getD (m-1+(lim (b*2^s)).length:Nat) 0:Nat)+(18446744073709551616-cy))%18446744073709551616:Nat)+(18446744073709551616-bo))%18446744073709551616:Nat)) ?_ (hr:=rint (n:=IntKind.wrap .u64 (((((ua.getD (m-1+(lim (b*2^s)).length:Nat) 0:Nat)+(18446744073709551616-cy))%18446744073709551616:Nat):Int)-((bo:Nat):Int))) kR (wSU64 (((ua.getD (m-1+(lim (b*2^s)).length:Nat) 0:Nat)+(18446744073709551616-cy))%18446744073709551616:Nat) bo oM)))
  refine lL hs [.m 23 189] (lNS ?_)
  rw[show i=(lim (b*2^s)).length by omega] at inv1
  obtain ⟨hT1,hT2⟩:=sub32 (t:=(((((ua.getD (m-1+(lim (b*2^s)).length:Nat) 0:Nat)+(18446744073709551616-cy))%18446744073709551616:Nat)+(18446744073709551616-bo))%18446744073709551616:Nat)) (hWa.get (m-1+(lim (b*2^s)).length)) hcy hbo rfl
  have hE:=ms_end oM inv1 (s:=(((((((ua.getD (m-1+(lim (b*2^s)).length:Nat) 0:Nat)+(18446744073709551616-cy))%18446744073709551616:Nat)+(18446744073709551616-bo))%18446744073709551616:Nat))%4294967296)) (bo':=((((((ua.getD (m-1+(lim (b*2^s)).length:Nat) 0:Nat)+(18446744073709551616-cy))%18446744073709551616:Nat)+(18446744073709551616-bo))%18446744073709551616:Nat))/9223372036854775808) oM
  refine lL hs [.m 190 10,.m 191 15,.m 192 11] (lIn 193 ((((m:Nat):Int)-1)+((lim (b*2^s)).length:Nat)) (m-1+(lim (b*2^s)).length) ?_)
  refine lL hs [.m 194 23] (lV 195 (.int .u32 ((((((ua.getD (m-1+(lim (b*2^s)).length:Nat) 0:Nat)+(18446744073709551616-cy))%18446744073709551616:Nat)+(18446744073709551616-bo))%18446744073709551616:Nat)%4294967296:Nat)) ?_ (hr:=rint (n:=IntKind.wrap .u32 ((((((ua.getD (m-1+(lim (b*2^s)).length:Nat) 0:Nat)+(18446744073709551616-cy))%18446744073709551616:Nat)+(18446744073709551616-bo))%18446744073709551616:Nat):Int)) kR (wrU32 _)))
  refine lX 196 (some ⟨bR92,0,none⟩) ((ua).length) rac 1 (m-1+(lim (b*2^s)).length:Nat) (m-1+(lim (b*2^s)).length:Nat) rfl ?_
  refine lRs (ty:=159) (c:=rac) (b:=bR92) 0 (m-1+(lim (b*2^s)).length:Nat) 0 ([.int .u32 ((((((ua.getD (m-1+(lim (b*2^s)).length:Nat) 0:Nat)+(18446744073709551616-cy))%18446744073709551616:Nat)+(18446744073709551616-bo))%18446744073709551616:Nat)%4294967296:Nat)]) ua u32c 1 0 ((((((ua.getD (m-1+(lim (b*2^s)).length:Nat) 0:Nat)+(18446744073709551616-cy))%18446744073709551616:Nat)+(18446744073709551616-bo))%18446744073709551616:Nat)%4294967296:Nat) hs oM (fun w94 hs=>?_)
  replace hs:=hs.to [⟨b38,159,(ql).flatMap u32c⟩] [⟨159,1,some ⟨bR92,0,none⟩,rac,(ua).length,(ua.set (m-1+(lim (b*2^s)).length:Nat) ((((((ua.getD (m-1+(lim (b*2^s)).length:Nat) 0:Nat)+(18446744073709551616-cy))%18446744073709551616:Nat)+(18446744073709551616-bo))%18446744073709551616:Nat)%4294967296:Nat)).flatMap u32c⟩]
  refine lN (CG.join (fun Γ w_=>∃ (gz:Nat) (rzA:Option Addr) (rzc:Nat) (uz:List Nat) (h_:Hp),Γ=[(4,.slice none 0 0),(5,.slice none 0 0),(8,.int .i64 (s:Nat)),(9,.slice A7 ((lim (b*2^s)).length) c8),(11,.int .i64 ((lim (b*2^s)).length:Nat)),(12,.int .u64 ((lim (b*2^s)).getD (((lim (b*2^s)).length:Nat)-1:Nat) 0:Nat)),(13,.int .u64 ((lim (b*2^s)).getD (((lim (b*2^s)).length:Nat)-2:Nat) 0:Nat)),(14,.slice (some ⟨b38,0,none⟩) (((lim (a*2^s)).length+2)-(lim (b*2^s)).length:Nat) (((lim (a*2^s)).length+2)-(lim (b*2^s)).length:Nat)),(15,.int .i64 (((m:Nat):Int)-1)),(17,.int .u64 (gz:Nat)),(10,.slice rzA ((uz).length) rzc)]∧SS w h w_ h_ [⟨b38,159,(ql).flatMap u32c⟩] [⟨159,1,rzA,rzc,(uz).length,(uz).flatMap u32c⟩] [fun h_=>SlO 1 u32c 0 h_ (some ⟨b28,0,none⟩) ([0,0]),fun h_=>Seg h_ b28 0 ([.int .u32 0,.int .u32 0]),fun h_=>SlO 1 u32c 0 h_ A17 (lim (a*2^s)),fun h_=>Seg h_ b13 0 ([]),fun h_=>SlO 1 u32c 0 h_ A7 (lim (b*2^s)),fun h_=>SlO 1 u32c 0 h_ D (lim b),fun h_=>SlO 1 u32c 0 h_ A (lim a)]∧(uz.length=((lim (a*2^s)).length+2))∧(Ld uz)∧(gz<4294967296)∧(lval uz<4294967296^(m-1)*lval (lim (b*2^s)))∧(lval uz+4294967296^(m-1)*(gz*lval (lim (b*2^s)))=lval u)) ?_ ?_)
  ·
   refine cSL ?_
   have hW4:Ld (ua.set (m-1+(lim (b*2^s)).length:Nat) ((((((ua.getD (m-1+(lim (b*2^s)).length:Nat) 0:Nat)+(18446744073709551616-cy))%18446744073709551616:Nat)+(18446744073709551616-bo))%18446744073709551616:Nat)%4294967296:Nat)):=hWa.set _ (Nat.mod_lt _ kD)
   have hab4:Above (ua.set (m-1+(lim (b*2^s)).length:Nat) ((((((ua.getD (m-1+(lim (b*2^s)).length:Nat) 0:Nat)+(18446744073709551616-cy))%18446744073709551616:Nat)+(18446744073709551616-bo))%18446744073709551616:Nat)%4294967296:Nat)) u (m-1+(lim (b*2^s)).length+1):=hab1.set oM oM
   have hl4:(ua.set (m-1+(lim (b*2^s)).length:Nat) ((((((ua.getD (m-1+(lim (b*2^s)).length:Nat) 0:Nat)+(18446744073709551616-cy))%18446744073709551616:Nat)+(18446744073709551616-bo))%18446744073709551616:Nat)%4294967296:Nat)).length=((lim (a*2^s)).length+2):=by rw[List.length_set];exact hua
   refine lL hs [.m 197 23] (lV 198 (.int .u64 ((((((ua.getD (m-1+(lim (b*2^s)).length:Nat) 0:Nat)+(18446744073709551616-cy))%18446744073709551616:Nat)+(18446744073709551616-bo))%18446744073709551616:Nat)/9223372036854775808:Nat)) ?_ (hr:=rint (n:=Int.fdiv ((((((ua.getD (m-1+(lim (b*2^s)).length:Nat) 0:Nat)+(18446744073709551616-cy))%18446744073709551616:Nat)+(18446744073709551616-bo))%18446744073709551616:Nat):Int) 9223372036854775808) kR (fdivNat _ 9223372036854775808)))
   cases hb95:((((((((ua.getD (m-1+(lim (b*2^s)).length:Nat) 0:Nat)+(18446744073709551616-cy))%18446744073709551616:Nat)+(18446744073709551616-bo))%18446744073709551616:Nat)/9223372036854775808:Nat):Int) == (1:Int))
   ·
    have phb95:=neOfBeq hb95
    refine lB 199 hb95 ?_
    refine lN (cIF (CG.skip ?_))
    have hD_:=dl_zero hn2 rfl hWv hWu hW4 hjn htop hR1 hGd hab4 (by rw[show ((((((ua.getD (m-1+(lim (b*2^s)).length:Nat) 0:Nat)+(18446744073709551616-cy))%18446744073709551616:Nat)+(18446744073709551616-bo))%18446744073709551616:Nat))/9223372036854775808=0 by omega] at hE;exact hE)
    have hDw:=hW4
    have hDg:=hgl
    have hDu:=hD_.1
    have hDe:=hD_.2
    have hDl:=hl4
    intro a_ ka
    have q96:(ua.set (m-1+(lim (b*2^s)).length:Nat) ((((((ua.getD (m-1+(lim (b*2^s)).length:Nat) 0:Nat)+(18446744073709551616-cy))%18446744073709551616:Nat)+(18446744073709551616-bo))%18446744073709551616:Nat)%4294967296:Nat)).length=((lim (a*2^s)).length+2):=hDl
    have q97:Ld (ua.set (m-1+(lim (b*2^s)).length:Nat) ((((((ua.getD (m-1+(lim (b*2^s)).length:Nat) 0:Nat)+(18446744073709551616-cy))%18446744073709551616:Nat)+(18446744073709551616-bo))%18446744073709551616:Nat)%4294967296:Nat)):=hDw
    have q98:gq<4294967296:=hDg
    have q99:lval (ua.set (m-1+(lim (b*2^s)).length:Nat) ((((((ua.getD (m-1+(lim (b*2^s)).length:Nat) 0:Nat)+(18446744073709551616-cy))%18446744073709551616:Nat)+(18446744073709551616-bo))%18446744073709551616:Nat)%4294967296:Nat))<4294967296^(m-1)*lval (lim (b*2^s)):=hDu
    have q100:lval (ua.set (m-1+(lim (b*2^s)).length:Nat) ((((((ua.getD (m-1+(lim (b*2^s)).length:Nat) 0:Nat)+(18446744073709551616-cy))%18446744073709551616:Nat)+(18446744073709551616-bo))%18446744073709551616:Nat)%4294967296:Nat))+4294967296^(m-1)*(gq*lval (lim (b*2^s)))=lval u:=hDe
    replace hs:=hs.rown [⟨159,1,some ⟨bR92,0,none⟩,rac,(ua.set (m-1+(lim (b*2^s)).length:Nat) ((((((ua.getD (m-1+(lim (b*2^s)).length:Nat) 0:Nat)+(18446744073709551616-cy))%18446744073709551616:Nat)+(18446744073709551616-bo))%18446744073709551616:Nat)%4294967296:Nat)).length,(ua.set (m-1+(lim (b*2^s)).length:Nat) ((((((ua.getD (m-1+(lim (b*2^s)).length:Nat) 0:Nat)+(18446744073709551616-cy))%18446744073709551616:Nat)+(18446744073709551616-bo))%18446744073709551616:Nat)%4294967296:Nat)).flatMap u32c⟩] (by simp only[List.length_set])
    exact ⟨_,⟨gq,some ⟨bR92,0,none⟩,rac,ua.set (m-1+(lim (b*2^s)).length:Nat) ((((((ua.getD (m-1+(lim (b*2^s)).length:Nat) 0:Nat)+(18446744073709551616-cy))%18446744073709551616:Nat)+(18446744073709551616-bo))%18446744073709551616:Nat)%4294967296:Nat),h89,rfl,hs.to _ _,q96,q97,q98,q99,q100⟩,ka.to [(4,.slice none 0 0),(5,.slice none 0 0),(8,.int .i64 (s:Nat)),(9,.slice A7 ((lim (b*2^s)).length) c8),(11,.int .i64 ((lim (b*2^s)).length:Nat)),(12,.int .u64 ((lim (b*2^s)).getD (((lim (b*2^s)).length:Nat)-1:Nat) 0:Nat)),(13,.int .u64 ((lim (b*2^s)).getD (((lim (b*2^s)).length:Nat)-2:Nat) 0:Nat)),(14,.slice (some ⟨b38,0,none⟩) (((lim (a*2^s)).length+2)-(lim (b*2^s)).length:Nat) (((lim (a*2^s)).length+2)-(lim (b*2^s)).length:Nat)),(15,.int .i64 (((m:Nat):Int)-1)),(17,.int .u64 (gq:Nat)),(10,.slice (some ⟨bR92,0,none⟩) (((ua.set (m-1+(lim (b*2^s)).length:Nat) ((((((ua.getD (m-1+(lim (b*2^s)).length:Nat) 0:Nat)+(18446744073709551616-cy))%18446744073709551616:Nat)+(18446744073709551616-bo))%18446744073709551616:Nat)%4294967296:Nat))).length) rac)] (by simp only[List.length_set];kernel_rfl)⟩
   have phb95:=eq_of_beq hb95
   refine lB 199 hb95 ?_
   refine lN (cIT (cSL (lL hs [.m 200 17] ?_)))
   have hE1:=hE
   rw[show ((((((ua.getD (m-1+(lim (b*2^s)).length:Nat) 0:Nat)+(18446744073709551616-cy))%18446744073709551616:Nat)+(18446744073709551616-bo))%18446744073709551616:Nat))/9223372036854775808=1 by omega] at hE1
   have hgp:=dl_pos hn2 rfl hWv hWu hW4 hjn htop hR1 hGd hab4 hE1
   refine lV 201 (.int .u64 (gq-1:Nat)) ?_ (hr:=rint (n:=IntKind.wrap .u64 (((gq:Nat):Int)-(1:Int))) kR (fSU64 gq 1 oM oM))
   refine lL hs [.m 17 201] (lN (cTo [(4,.slice none 0 0),(5,.slice none 0 0),(8,.int .i64 (s:Nat)),(9,.slice A7 ((lim (b*2^s)).length) c8),(10,.slice (some ⟨bR92,0,none⟩) ((ua).length) rac),(11,.int .i64 ((lim (b*2^s)).length:Nat)),(12,.int .u64 ((lim (b*2^s)).getD (((lim (b*2^s)).length:Nat)-1:Nat) 0:Nat)),(13,.int .u64 ((lim (b*2^s)).getD (((lim (b*2^s)).length:Nat)-2:Nat) 0:Nat)),(14,.slice (some ⟨b38,0,none⟩) (((lim (a*2^s)).length+2)-(lim (b*2^s)).length:Nat) (((lim (a*2^s)).length+2)-(lim (b*2^s)).length:Nat)),(15,.int .i64 (((m:Nat):Int)-1)),(17,.int .u64 (gq-1:Nat)),(19,.int .u64 (cy:Nat))] ?_))
   refine cSL (lL hs [.v 19 (.int .u64 0)] (lN (CG.seq (cSL (lL hs [.v 24 (.int .i64 0)] (lN (CG.block (cTo [(4,.slice none 0 0),(5,.slice none 0 0),(8,.int .i64 (s:Nat)),(9,.slice A7 ((lim (b*2^s)).length) c8),(10,.slice (some ⟨bR92,0,none⟩) ((ua).length) rac),(11,.int .i64 ((lim (b*2^s)).length:Nat)),(12,.int .u64 ((lim (b*2^s)).getD (((lim (b*2^s)).length:Nat)-1:Nat) 0:Nat)),(13,.int .u64 ((lim (b*2^s)).getD (((lim (b*2^s)).length:Nat)-2:Nat) 0:Nat)),(14,.slice (some ⟨b38,0,none⟩) (((lim (a*2^s)).length+2)-(lim (b*2^s)).length:Nat) (((lim (a*2^s)).length+2)-(lim (b*2^s)).length:Nat)),(15,.int .i64 (((m:Nat):Int)-1)),(17,.int .u64 (gq-1:Nat)),(24,.int .i64 0),(19,.int .u64 0)] ?_))))))))
   replace hs:=hs.rown [⟨159,1,some ⟨bR92,0,none⟩,rac,(ua.set (m-1+(lim (b*2^s)).length:Nat) ((((((ua.getD (m-1+(lim (b*2^s)).length:Nat) 0:Nat)+(18446744073709551616-cy))%18446744073709551616:Nat)+(18446744073709551616-bo))%18446744073709551616:Nat)%4294967296:Nat)).length,(ua.set (m-1+(lim (b*2^s)).length:Nat) ((((((ua.getD (m-1+(lim (b*2^s)).length:Nat) 0:Nat)+(18446744073709551616-cy))%18446744073709551616:Nat)+(18446744073709551616-bo))%18446744073709551616:Nat)%4294967296:Nat)).flatMap u32c⟩] (by simp only[List.length_set])
   refine CG.loop (fun μ_ Γ w_=>∃ (i2:Nat) (rbA:Option Addr) (rbc:Nat) (ub:List Nat) (c2:Nat) (h_:Hp),μ_=(lim (b*2^s)).length-i2∧Γ=[(4,.slice none 0 0),(5,.slice none 0 0),(8,.int .i64 (s:Nat)),(9,.slice A7 ((lim (b*2^s)).length) c8),(10,.slice rbA ((ub).length) rbc),(11,.int .i64 ((lim (b*2^s)).length:Nat)),(12,.int .u64 ((lim (b*2^s)).getD (((lim (b*2^s)).length:Nat)-1:Nat) 0:Nat)),(13,.int .u64 ((lim (b*2^s)).getD (((lim (b*2^s)).length:Nat)-2:Nat) 0:Nat)),(14,.slice (some ⟨b38,0,none⟩) (((lim (a*2^s)).length+2)-(lim (b*2^s)).length:Nat) (((lim (a*2^s)).length+2)-(lim (b*2^s)).length:Nat)),(15,.int .i64 (((m:Nat):Int)-1)),(17,.int .u64 (gq-1:Nat)),(24,.int .i64 (i2:Nat)),(19,.int .u64 (c2:Nat))]∧SS w h w_ h_ [⟨b38,159,(ql).flatMap u32c⟩] [⟨159,1,rbA,rbc,(ub).length,(ub).flatMap u32c⟩] [fun h_=>SlO 1 u32c 0 h_ (some ⟨b28,0,none⟩) ([0,0]),fun h_=>Seg h_ b28 0 ([.int .u32 0,.int .u32 0]),fun h_=>SlO 1 u32c 0 h_ A17 (lim (a*2^s)),fun h_=>Seg h_ b13 0 ([]),fun h_=>SlO 1 u32c 0 h_ A7 (lim (b*2^s)),fun h_=>SlO 1 u32c 0 h_ D (lim b),fun h_=>SlO 1 u32c 0 h_ A (lim a)]∧(i2≤(lim (b*2^s)).length)∧(ub.length=((lim (a*2^s)).length+2))∧(Ld ub)∧(c2≤1)∧(bval 4294967296 ub+4294967296^(m-1+i2)*c2=bval 4294967296 (ua.set (m-1+(lim (b*2^s)).length:Nat) ((((((ua.getD (m-1+(lim (b*2^s)).length:Nat) 0:Nat)+(18446744073709551616-cy))%18446744073709551616:Nat)+(18446744073709551616-bo))%18446744073709551616:Nat)%4294967296:Nat))+4294967296^(m-1)*bval 4294967296 ((lim (b*2^s)).take i2))∧(Above ub u (m-1+(lim (b*2^s)).length+1))) _ ⟨0,some ⟨bR92,0,none⟩,rac,ua.set (m-1+(lim (b*2^s)).length:Nat) ((((((ua.getD (m-1+(lim (b*2^s)).length:Nat) 0:Nat)+(18446744073709551616-cy))%18446744073709551616:Nat)+(18446744073709551616-bo))%18446744073709551616:Nat)%4294967296:Nat),0,h89,rfl,(by simp only[List.length_set]<;>rfl),hs.to _ _,Nat.zero_le _,hl4,hW4,oM,(by simp[bval]),hab4⟩ ?_
   rintro _ _ w101 ⟨i2,rbA,rbc,ub,c2,h102,hm103,rfl,hs,hi2,hub,hWb,hc2,inv3,hab2⟩
   refine CG.seq (cSL (lL hs [.m 202 24,.m 203 11] ?_))
   cases hb104:(decide (((i2:Nat):Int)<(((lim (b*2^s)).length:Nat):Int)))
   ·
    have phb104:=oF hb104
    refine lB 204 hb104 ?_
    refine lN (cIF (CG.exit ?_))
    show CG _ _ _ _ _ _ _ _
    refine CG.listed ?_
    have hubn:=hWb.get (m-1+(lim (b*2^s)).length)
    refine lL hs [.m 231 10,.m 232 15,.m 233 11] (lIn 234 ((((m:Nat):Int)-1)+((lim (b*2^s)).length:Nat)) (m-1+(lim (b*2^s)).length) ?_)
    refine lL hs [.m 235 10,.m 236 15,.m 237 11] (lIn 238 ((((m:Nat):Int)-1)+((lim (b*2^s)).length:Nat)) (m-1+(lim (b*2^s)).length) ?_)
    obtain ⟨bR105,hbR106⟩:=hs.rowA 0 (A:=rbA) (c:=rbc) (m:=(ub).length) (ty:=159) (sz:=1) (cs:=(ub).flatMap u32c) oM
    subst hbR106
    refine lX 239 (some ⟨bR105,0,none⟩) ((ub).length) rbc 1 (m-1+(lim (b*2^s)).length:Nat) (m-1+(lim (b*2^s)).length:Nat) rfl ?_
    refine lRq (ty:=159) (sz:=1) (c:=rbc) (m:=(ub).length) (b:=bR105) (cs:=(ub).flatMap u32c) 240 0 (.int .u32 (ub.getD (m-1+(lim (b*2^s)).length:Nat) 0:Nat)) (u32c (ub.getD (m-1+(lim (b*2^s)).length:Nat) 0)) hs (row_el (f:=u32c) (sz:=1) (fun _=>rfl) 0 ub (m-1+(lim (b*2^s)).length:Nat) oM) ?_
    refine lV 241 (.int .u64 (ub.getD (m-1+(lim (b*2^s)).length:Nat) 0:Nat)) ?_ (hr:=rint (n:=IntKind.wrap .u64 ((ub.getD (m-1+(lim (b*2^s)).length:Nat) 0:Nat):Int)) kR (fitU64 oM oM))
    refine lL hs [.m 242 19] (lV 243 (.int .u64 ((ub.getD (m-1+(lim (b*2^s)).length:Nat) 0:Nat)+c2:Nat)) ?_ (hr:=rint (n:=IntKind.wrap .u64 (((ub.getD (m-1+(lim (b*2^s)).length:Nat) 0:Nat):Int)+((c2:Nat):Int))) kR (fAU64 (ub.getD (m-1+(lim (b*2^s)).length:Nat) 0:Nat) c2 oM)))
    refine lV 244 (.int .u32 (((ub.getD (m-1+(lim (b*2^s)).length:Nat) 0:Nat)+c2:Nat)%4294967296:Nat)) ?_ (hr:=rint (n:=IntKind.wrap .u32 (((ub.getD (m-1+(lim (b*2^s)).length:Nat) 0:Nat)+c2:Nat):Int)) kR (wrU32 _))
    refine lX 245 (some ⟨bR105,0,none⟩) ((ub).length) rbc 1 (m-1+(lim (b*2^s)).length:Nat) (m-1+(lim (b*2^s)).length:Nat) rfl ?_
    refine lRs (ty:=159) (c:=rbc) (b:=bR105) 0 (m-1+(lim (b*2^s)).length:Nat) 0 ([.int .u32 (((ub.getD (m-1+(lim (b*2^s)).length:Nat) 0:Nat)+c2:Nat)%4294967296:Nat)]) ub u32c 1 0 (((ub.getD (m-1+(lim (b*2^s)).length:Nat) 0:Nat)+c2:Nat)%4294967296:Nat) hs oM (fun w107 hs=>?_)
    replace hs:=hs.to [⟨b38,159,(ql).flatMap u32c⟩] [⟨159,1,some ⟨bR105,0,none⟩,rbc,(ub).length,(ub.set (m-1+(lim (b*2^s)).length:Nat) (((ub.getD (m-1+(lim (b*2^s)).length:Nat) 0:Nat)+c2:Nat)%4294967296:Nat)).flatMap u32c⟩]
    refine lD ?_
    rw[show i2=(lim (b*2^s)).length by omega] at inv3
    have hE3:=ab_end (s:=(ub.getD (m-1+(lim (b*2^s)).length) 0+c2)%4294967296) (c':=(ub.getD (m-1+(lim (b*2^s)).length) 0+c2)/4294967296) oM inv3 (Nat.mod_add_div _ _)
    have hDw:Ld (ub.set (m-1+(lim (b*2^s)).length:Nat) (((ub.getD (m-1+(lim (b*2^s)).length:Nat) 0:Nat)+c2:Nat)%4294967296:Nat)):=hWb.set _ (Nat.mod_lt _ kD)
    obtain ⟨hDu,hDe,hDp⟩:=dl_one hn2 rfl hWv hWu hW4 hDw hjn htop hR1 hGd hab4 (hab2.set oM oM) hE1 hE3
    have hDg:gq-1<4294967296:=by omega
    have hDl:(ub.set (m-1+(lim (b*2^s)).length:Nat) (((ub.getD (m-1+(lim (b*2^s)).length:Nat) 0:Nat)+c2:Nat)%4294967296:Nat)).length=((lim (a*2^s)).length+2):=by rw[List.length_set];exact hub
    intro a_ ka
    have q108:(ub.set (m-1+(lim (b*2^s)).length:Nat) (((ub.getD (m-1+(lim (b*2^s)).length:Nat) 0:Nat)+c2:Nat)%4294967296:Nat)).length=((lim (a*2^s)).length+2):=hDl
    have q109:Ld (ub.set (m-1+(lim (b*2^s)).length:Nat) (((ub.getD (m-1+(lim (b*2^s)).length:Nat) 0:Nat)+c2:Nat)%4294967296:Nat)):=hDw
    have q110:(gq-1)<4294967296:=hDg
    have q111:lval (ub.set (m-1+(lim (b*2^s)).length:Nat) (((ub.getD (m-1+(lim (b*2^s)).length:Nat) 0:Nat)+c2:Nat)%4294967296:Nat))<4294967296^(m-1)*lval (lim (b*2^s)):=hDu
    have q112:lval (ub.set (m-1+(lim (b*2^s)).length:Nat) (((ub.getD (m-1+(lim (b*2^s)).length:Nat) 0:Nat)+c2:Nat)%4294967296:Nat))+4294967296^(m-1)*((gq-1)*lval (lim (b*2^s)))=lval u:=hDe
    replace hs:=hs.rown [⟨159,1,some ⟨bR105,0,none⟩,rbc,(ub.set (m-1+(lim (b*2^s)).length:Nat) (((ub.getD (m-1+(lim (b*2^s)).length:Nat) 0:Nat)+c2:Nat)%4294967296:Nat)).length,(ub.set (m-1+(lim (b*2^s)).length:Nat) (((ub.getD (m-1+(lim (b*2^s)).length:Nat) 0:Nat)+c2:Nat)%4294967296:Nat)).flatMap u32c⟩] (by simp only[List.length_set])
    exact ⟨_,⟨(gq-1),some ⟨bR105,0,none⟩,rbc,ub.set (m-1+(lim (b*2^s)).length:Nat) (((ub.getD (m-1+(lim (b*2^s)).length:Nat) 0:Nat)+c2:Nat)%4294967296:Nat),h102,rfl,hs.to _ _,q108,q109,q110,q111,q112⟩,ka.to [(4,.slice none 0 0),(5,.slice none 0 0),(8,.int .i64 (s:Nat)),(9,.slice A7 ((lim (b*2^s)).length) c8),(11,.int .i64 ((lim (b*2^s)).length:Nat)),(12,.int .u64 ((lim (b*2^s)).getD (((lim (b*2^s)).length:Nat)-1:Nat) 0:Nat)),(13,.int .u64 ((lim (b*2^s)).getD (((lim (b*2^s)).length:Nat)-2:Nat) 0:Nat)),(14,.slice (some ⟨b38,0,none⟩) (((lim (a*2^s)).length+2)-(lim (b*2^s)).length:Nat) (((lim (a*2^s)).length+2)-(lim (b*2^s)).length:Nat)),(15,.int .i64 (((m:Nat):Int)-1)),(17,.int .u64 ((gq-1):Nat)),(10,.slice (some ⟨bR105,0,none⟩) (((ub.set (m-1+(lim (b*2^s)).length:Nat) (((ub.getD (m-1+(lim (b*2^s)).length:Nat) 0:Nat)+c2:Nat)%4294967296:Nat))).length) rbc)] (by simp only[List.length_set];kernel_rfl)⟩
   have phb104:=oT hb104
   refine lB 204 hb104 ?_
   refine lN (cIT (CG.skipN (CG.seq (CG.block (CG.seq (cR 15 [] mixed hs al_nil ?_))))))
   have hvi2:=hWv.get i2
   have hubk:=hWb.get (m-1+i2)
   refine eV 0 207 (.int .u64 (c2:Nat)) ?_
   refine eV 1 208 (.slice rbA ((ub).length) rbc) ?_
   refine eV 2 209 (.int .i64 (((m:Nat):Int)-1)) ?_
   refine eV 3 210 (.int .i64 (i2:Nat)) ?_
   refine eIn 4 211 ((((m:Nat):Int)-1)+(i2:Nat)) (m-1+i2) ?_
   obtain ⟨bR113,hbR114⟩:=hs.rowA 0 (A:=rbA) (c:=rbc) (m:=(ub).length) (ty:=159) (sz:=1) (cs:=(ub).flatMap u32c) oM
   subst hbR114
   refine eX 5 212 (some ⟨bR113,0,none⟩) ((ub).length) rbc 1 (m-1+i2:Nat) (m-1+i2) rfl ?_
   refine eRq (ty:=159) (sz:=1) (c:=rbc) (m:=(ub).length) (b:=bR113) (cs:=(ub).flatMap u32c) 6 213 0 (.int .u32 (ub.getD (m-1+i2) 0:Nat)) (u32c (ub.getD (m-1+i2) 0)) hs (row_el (f:=u32c) (sz:=1) (fun _=>rfl) 0 ub (m-1+i2) oM) ?_
   refine eV 7 214 (.int .u64 (ub.getD (m-1+i2) 0:Nat)) ?_ (hv:=fun _=>rint (n:=IntKind.wrap .u64 ((ub.getD (m-1+i2) 0:Nat):Int)) kR (fitU64 oM oM))
   refine eV 8 215 (.int .u64 (c2+(ub.getD (m-1+i2) 0):Nat)) ?_ (hv:=fun _=>rint (n:=IntKind.wrap .u64 (((c2:Nat):Int)+((ub.getD (m-1+i2) 0:Nat):Int))) kR (fAU64 c2 (ub.getD (m-1+i2) 0) oM))
   refine eV 9 216 (.slice A7 ((lim (b*2^s)).length) c8) ?_
   refine eV 10 217 (.int .i64 (i2:Nat)) ?_
   refine eX 11 218 A7 ((lim (b*2^s)).length) c8 1 (i2:Nat) i2 ((hs.f.2.2.2.2.1).ok oM) ?_
   refine eH 12 219 (.int .u32 ((lim (b*2^s)).getD i2 0:Nat)) hs ((hs.f.2.2.2.2.1).el i2 oM) ?_
   refine eV 13 220 (.int .u64 ((lim (b*2^s)).getD i2 0:Nat)) ?_ (hv:=fun _=>rint (n:=IntKind.wrap .u64 (((lim (b*2^s)).getD i2 0:Nat):Int)) kR (fitU64 oM oM))
   refine eV 14 221 (.int .u64 ((c2+(ub.getD (m-1+i2) 0):Nat)+((lim (b*2^s)).getD i2 0:Nat):Nat)) ?_ (hv:=fun _=>rint (n:=IntKind.wrap .u64 (((c2+(ub.getD (m-1+i2) 0):Nat):Int)+(((lim (b*2^s)).getD i2 0:Nat):Int))) kR (fAU64 (c2+(ub.getD (m-1+i2) 0):Nat) ((lim (b*2^s)).getD i2 0:Nat) oM))
   refine eD0 hs (fun w115 h116 hs=>?_)
   refine tV 15 19 (.int .u64 ((c2+(ub.getD (m-1+i2) 0):Nat)+((lim (b*2^s)).getD i2 0:Nat):Nat)) ?_
   refine tNS ?_
   refine lL hs [.m 222 10,.m 223 15,.m 224 24] (lIn 225 ((((m:Nat):Int)-1)+(i2:Nat)) (m-1+i2) ?_)
   refine lL hs [.m 226 19] (lV 227 (.int .u32 (((c2+(ub.getD (m-1+i2) 0):Nat)+((lim (b*2^s)).getD i2 0:Nat):Nat)%4294967296:Nat)) ?_ (hr:=rint (n:=IntKind.wrap .u32 (((c2+(ub.getD (m-1+i2) 0):Nat)+((lim (b*2^s)).getD i2 0:Nat):Nat):Int)) kR (wrU32 _)))
   refine lX 228 (some ⟨bR113,0,none⟩) ((ub).length) rbc 1 (m-1+i2:Nat) (m-1+i2) rfl ?_
   refine lRs (ty:=159) (c:=rbc) (b:=bR113) 0 (m-1+i2) 0 ([.int .u32 (((c2+(ub.getD (m-1+i2) 0):Nat)+((lim (b*2^s)).getD i2 0:Nat):Nat)%4294967296:Nat)]) ub u32c 1 0 (((c2+(ub.getD (m-1+i2) 0):Nat)+((lim (b*2^s)).getD i2 0:Nat):Nat)%4294967296:Nat) hs oM (fun w117 hs=>?_)
   replace hs:=hs.to [⟨b38,159,(ql).flatMap u32c⟩] [⟨159,1,some ⟨bR113,0,none⟩,rbc,(ub).length,(ub.set (m-1+i2) (((c2+(ub.getD (m-1+i2) 0):Nat)+((lim (b*2^s)).getD i2 0:Nat):Nat)%4294967296:Nat)).flatMap u32c⟩]
   refine lN (CG.listed (lL hs [.m 229 19] (lV 230 (.int .u64 (((c2+(ub.getD (m-1+i2) 0):Nat)+((lim (b*2^s)).getD i2 0:Nat):Nat)/4294967296:Nat)) ?_ (hr:=rint (n:=Int.fdiv (((c2+(ub.getD (m-1+i2) 0):Nat)+((lim (b*2^s)).getD i2 0:Nat):Nat):Int) 4294967296) kR (fdivNat _ 4294967296)))))
   refine lL hs [.m 19 230] (lN (CG.listed (lL hs [.m 205 24] (lIn 206 ((i2:Nat)+1) (i2+1) ?_))))
   refine lL hs [.m 24 206] (lD ?_)
   intro a_ ka
   have q118:(i2+1)≤(lim (b*2^s)).length:=by omega
   have q119:(ub.set (m-1+i2) (((c2+(ub.getD (m-1+i2) 0):Nat)+((lim (b*2^s)).getD i2 0:Nat):Nat)%4294967296:Nat)).length=((lim (a*2^s)).length+2):=(by rw[List.length_set];exact hub)
   have q120:Ld (ub.set (m-1+i2) (((c2+(ub.getD (m-1+i2) 0):Nat)+((lim (b*2^s)).getD i2 0:Nat):Nat)%4294967296:Nat)):=(hWb.set _ (Nat.mod_lt _ kD))
   have q121:(((c2+(ub.getD (m-1+i2) 0):Nat)+((lim (b*2^s)).getD i2 0:Nat):Nat)/4294967296:Nat)≤1:=oM
   have q122:bval 4294967296 (ub.set (m-1+i2) (((c2+(ub.getD (m-1+i2) 0):Nat)+((lim (b*2^s)).getD i2 0:Nat):Nat)%4294967296:Nat))+4294967296^(m-1+(i2+1))*(((c2+(ub.getD (m-1+i2) 0):Nat)+((lim (b*2^s)).getD i2 0:Nat):Nat)/4294967296:Nat)=bval 4294967296 (ua.set (m-1+(lim (b*2^s)).length:Nat) ((((((ua.getD (m-1+(lim (b*2^s)).length:Nat) 0:Nat)+(18446744073709551616-cy))%18446744073709551616:Nat)+(18446744073709551616-bo))%18446744073709551616:Nat)%4294967296:Nat))+4294967296^(m-1)*bval 4294967296 ((lim (b*2^s)).take (i2+1)):=(ab_step oM inv3 (Nat.mod_add_div _ _ |>.trans oM))
   have q123:Above (ub.set (m-1+i2) (((c2+(ub.getD (m-1+i2) 0):Nat)+((lim (b*2^s)).getD i2 0:Nat):Nat)%4294967296:Nat)) u (m-1+(lim (b*2^s)).length+1):=(hab2.set oM oM)
   replace hs:=hs.rown [⟨159,1,some ⟨bR113,0,none⟩,rbc,(ub.set (m-1+i2) (((c2+(ub.getD (m-1+i2) 0):Nat)+((lim (b*2^s)).getD i2 0:Nat):Nat)%4294967296:Nat)).length,(ub.set (m-1+i2) (((c2+(ub.getD (m-1+i2) 0):Nat)+((lim (b*2^s)).getD i2 0:Nat):Nat)%4294967296:Nat)).flatMap u32c⟩] (by simp only[List.length_set])
   refine ⟨_,_,?_,⟨i2+1,some ⟨bR113,0,none⟩,rbc,ub.set (m-1+i2) (((c2+(ub.getD (m-1+i2) 0):Nat)+((lim (b*2^s)).getD i2 0:Nat):Nat)%4294967296:Nat),(((c2+(ub.getD (m-1+i2) 0):Nat)+((lim (b*2^s)).getD i2 0:Nat):Nat)/4294967296:Nat),h116,rfl,rfl,hs.to _ _,q118,q119,q120,q121,q122,q123⟩,ka.to [(4,.slice none 0 0),(5,.slice none 0 0),(8,.int .i64 (s:Nat)),(9,.slice A7 ((lim (b*2^s)).length) c8),(10,.slice (some ⟨bR113,0,none⟩) (((ub.set (m-1+i2) (((c2+(ub.getD (m-1+i2) 0):Nat)+((lim (b*2^s)).getD i2 0:Nat):Nat)%4294967296:Nat))).length) rbc),(11,.int .i64 ((lim (b*2^s)).length:Nat)),(12,.int .u64 ((lim (b*2^s)).getD (((lim (b*2^s)).length:Nat)-1:Nat) 0:Nat)),(13,.int .u64 ((lim (b*2^s)).getD (((lim (b*2^s)).length:Nat)-2:Nat) 0:Nat)),(14,.slice (some ⟨b38,0,none⟩) (((lim (a*2^s)).length+2)-(lim (b*2^s)).length:Nat) (((lim (a*2^s)).length+2)-(lim (b*2^s)).length:Nat)),(15,.int .i64 (((m:Nat):Int)-1)),(17,.int .u64 (gq-1:Nat)),(24,.int .i64 ((i2+1):Nat)),(19,.int .u64 ((((c2+(ub.getD (m-1+i2) 0):Nat)+((lim (b*2^s)).getD i2 0:Nat):Nat)/4294967296:Nat):Nat))] (by simp only[List.length_set];kernel_rfl)⟩
   omega
  rintro _ w124 ⟨gz,rzA,rzc,uz,h125,rfl,hs,hDl,hDw,hDg,hDu,hDe⟩
  refine CG.listed (lL hs [.m 246 14,.m 247 15,.m 248 17] (lV 249 (.int .u32 (gz:Nat)) ?_ (hr:=rint (n:=IntKind.wrap .u32 ((gz:Nat):Int)) kR (fitU32 oM oM))))
  refine lX 250 (some ⟨b38,0,none⟩) (((lim (a*2^s)).length+2)-(lim (b*2^s)).length:Nat) (((lim (a*2^s)).length+2)-(lim (b*2^s)).length:Nat) 1 (((m:Nat):Int)-1) (m-1) rfl ?_
  refine lW 0 ql u32c 1 (m-1) gz hs oM (fun w126 hs=>?_)
  have hl127:((ql).set (m-1) gz).length=(((lim (a*2^s)).length+2)-(lim (b*2^s)).length:Nat):=by rw[List.length_set];exact hql
  replace hs:=hs.to [⟨b38,159,((ql).set (m-1) gz).flatMap u32c⟩] [⟨159,1,rzA,rzc,(uz).length,(uz).flatMap u32c⟩]
  refine lN (CG.listed (lL hs [.m 87 15] (lV 88 (.int .i64 (((m-1:Nat):Int)-1)) ?_ (hr:=rint (n:=IntKind.wrap .i64 ((((m:Nat):Int)-1)-1)) kR ((wr64 oM oM).trans oM)))))
  refine lL hs [.m 15 88] (lD ?_)
  intro a_ ka
  have q128:(m-1)≤((lim (a*2^s)).length+2)-(lim (b*2^s)).length:=by omega
  have q129:uz.length=((lim (a*2^s)).length+2):=hDl
  have q130:Ld uz:=hDw
  have q131:((ql).set (m-1) gz).length=((lim (a*2^s)).length+2)-(lim (b*2^s)).length:=hl127
  have q132:Ld ((ql).set (m-1) gz):=(hWq.set _ hDg)
  have q133:lval uz<4294967296^(m-1)*lval (lim (b*2^s)):=hDu
  have q134:a*2^s=lval ((ql).set (m-1) gz)*lval (lim (b*2^s))+lval uz:=(dl_quo oM (hq0 _ oM) inv hDe)
  have q135:∀ k,k<(m-1)→((ql).set (m-1) gz).getD k 0=0:=(fun k hk=>by rw[getD_set' oM,if_neg oM];exact hq0 k oM)
  refine ⟨_,_,?_,⟨m-1,rzA,rzc,uz,(ql).set (m-1) gz,h125,rfl,rfl,hs.to _ _,q128,q129,q130,q131,q132,q133,q134,q135⟩,ka.to [(4,.slice none 0 0),(5,.slice none 0 0),(8,.int .i64 (s:Nat)),(9,.slice A7 ((lim (b*2^s)).length) c8),(10,.slice rzA ((uz).length) rzc),(11,.int .i64 ((lim (b*2^s)).length:Nat)),(12,.int .u64 ((lim (b*2^s)).getD (((lim (b*2^s)).length:Nat)-1:Nat) 0:Nat)),(13,.int .u64 ((lim (b*2^s)).getD (((lim (b*2^s)).length:Nat)-2:Nat) 0:Nat)),(14,.slice (some ⟨b38,0,none⟩) (((lim (a*2^s)).length+2)-(lim (b*2^s)).length:Nat) (((lim (a*2^s)).length+2)-(lim (b*2^s)).length:Nat)),(15,.int .i64 ((((m-1):Nat):Int)-1))] kR⟩
  omega
 have phb91:=oT hb91
 refine lB 144 hb91 ?_
 refine lN (cIT (CG.skipN (CG.seq (CG.block (cSL ?_)))))
 have hgv:=mulLB hgl hvi
 refine lL hs [.m 147 19,.m 148 17,.m 149 9,.m 150 21] (lX 151 A7 ((lim (b*2^s)).length) c8 1 (i:Nat) i ((hs.f.2.2.2.2.1).ok oM) ?_)
 refine lH 152 (.int .u32 ((lim (b*2^s)).getD i 0:Nat)) hs ((hs.f.2.2.2.2.1).el i oM) ?_
 refine lV 153 (.int .u64 ((lim (b*2^s)).getD i 0:Nat)) ?_ (hr:=rint (n:=IntKind.wrap .u64 (((lim (b*2^s)).getD i 0:Nat):Int)) kR (fitU64 oM oM))
 refine lV 154 (.int .u64 (gq*((lim (b*2^s)).getD i 0:Nat):Nat)) ?_ (hr:=rint (n:=IntKind.wrap .u64 (((gq:Nat):Int)*(((lim (b*2^s)).getD i 0:Nat):Int))) kR (fMU64 gq ((lim (b*2^s)).getD i 0:Nat) oM))
 refine lV 155 (.int .u64 (cy+(gq*((lim (b*2^s)).getD i 0:Nat):Nat):Nat)) ?_ (hr:=rint (n:=IntKind.wrap .u64 (((cy:Nat):Int)+((gq*((lim (b*2^s)).getD i 0:Nat):Nat):Int))) kR (fAU64 cy (gq*((lim (b*2^s)).getD i 0:Nat):Nat) oM))
 refine lL hs [.m 19 155] (lNS (lL hs [.m 156 10,.m 157 15,.m 158 21] (lIn 159 ((((m:Nat):Int)-1)+(i:Nat)) (m-1+i) ?_)))
 obtain ⟨bR136,hbR137⟩:=hs.rowA 0 (A:=raA) (c:=rac) (m:=(ua).length) (ty:=159) (sz:=1) (cs:=(ua).flatMap u32c) oM
 subst hbR137
 refine lX 160 (some ⟨bR136,0,none⟩) ((ua).length) rac 1 (m-1+i:Nat) (m-1+i) rfl ?_
 refine lRq (ty:=159) (sz:=1) (c:=rac) (m:=(ua).length) (b:=bR136) (cs:=(ua).flatMap u32c) 161 0 (.int .u32 (ua.getD (m-1+i) 0:Nat)) (u32c (ua.getD (m-1+i) 0)) hs (row_el (f:=u32c) (sz:=1) (fun _=>rfl) 0 ua (m-1+i) oM) ?_
 refine lV 162 (.int .u64 (ua.getD (m-1+i) 0:Nat)) ?_ (hr:=rint (n:=IntKind.wrap .u64 ((ua.getD (m-1+i) 0:Nat):Int)) kR (fitU64 oM oM))
 refine lL hs [.m 163 19] (lV 164 (.int .u64 ((cy+(gq*((lim (b*2^s)).getD i 0:Nat):Nat):Nat)%4294967296:Nat)) ?_ (hr:=opAndM (t:=50) (u:=50) (x:=.tmp 163) (y:=.const (.int .u64 4294967295)) (a:=(cy+(gq*((lim (b*2^s)).getD i 0:Nat):Nat):Nat)) (m:=4294967295) 32 kR kR kR oM kD _))
 refine lV 165 (.int .u64 (((ua.getD (m-1+i) 0)+(18446744073709551616-((cy+(gq*((lim (b*2^s)).getD i 0:Nat):Nat):Nat)%4294967296:Nat)))%18446744073709551616:Nat)) ?_ (hr:=rint (n:=IntKind.wrap .u64 (((ua.getD (m-1+i) 0:Nat):Int)-(((cy+(gq*((lim (b*2^s)).getD i 0:Nat):Nat):Nat)%4294967296:Nat):Int))) kR (wSU64 (ua.getD (m-1+i) 0) ((cy+(gq*((lim (b*2^s)).getD i 0:Nat):Nat):Nat)%4294967296:Nat) oM))
 refine lL hs [.m 166 20] (lV 167 (.int .u64 (((((ua.getD (m-1+i) 0)+(18446744073709551616-((cy+(gq*((lim (b*2^s)).getD i 0:Nat):Nat):Nat)%4294967296:Nat)))%18446744073709551616:Nat)+(18446744073709551616-bo))%18446744073709551616:Nat)) ?_ (hr:=rint (n:=IntKind.wrap .u64 (((((ua.getD (m-1+i) 0)+(18446744073709551616-((cy+(gq*((lim (b*2^s)).getD i 0:Nat):Nat):Nat)%4294967296:Nat)))%18446744073709551616:Nat):Int)-((bo:Nat):Int))) kR (wSU64 (((ua.getD (m-1+i) 0)+(18446744073709551616-((cy+(gq*((lim (b*2^s)).getD i 0:Nat):Nat):Nat)%4294967296:Nat)))%18446744073709551616:Nat) bo oM)))
 refine lL hs [.m 22 167] (lNS ?_)
 obtain ⟨hS1,hS2⟩:=sub32 (t:=(((((ua.getD (m-1+i) 0)+(18446744073709551616-((cy+(gq*((lim (b*2^s)).getD i 0:Nat):Nat):Nat)%4294967296:Nat)))%18446744073709551616:Nat)+(18446744073709551616-bo))%18446744073709551616:Nat)) (hWa.get (m-1+i)) (Nat.mod_lt ((cy+(gq*((lim (b*2^s)).getD i 0:Nat):Nat):Nat)) (show 0<4294967296 by decide)) hbo rfl
 refine lL hs [.m 168 10,.m 169 15,.m 170 21] (lIn 171 ((((m:Nat):Int)-1)+(i:Nat)) (m-1+i) ?_)
 refine lL hs [.m 172 22] (lV 173 (.int .u32 ((((((ua.getD (m-1+i) 0)+(18446744073709551616-((cy+(gq*((lim (b*2^s)).getD i 0:Nat):Nat):Nat)%4294967296:Nat)))%18446744073709551616:Nat)+(18446744073709551616-bo))%18446744073709551616:Nat)%4294967296:Nat)) ?_ (hr:=rint (n:=IntKind.wrap .u32 ((((((ua.getD (m-1+i) 0)+(18446744073709551616-((cy+(gq*((lim (b*2^s)).getD i 0:Nat):Nat):Nat)%4294967296:Nat)))%18446744073709551616:Nat)+(18446744073709551616-bo))%18446744073709551616:Nat):Int)) kR (wrU32 _)))
 refine lX 174 (some ⟨bR136,0,none⟩) ((ua).length) rac 1 (m-1+i:Nat) (m-1+i) rfl ?_
 refine lRs (ty:=159) (c:=rac) (b:=bR136) 0 (m-1+i) 0 ([.int .u32 ((((((ua.getD (m-1+i) 0)+(18446744073709551616-((cy+(gq*((lim (b*2^s)).getD i 0:Nat):Nat):Nat)%4294967296:Nat)))%18446744073709551616:Nat)+(18446744073709551616-bo))%18446744073709551616:Nat)%4294967296:Nat)]) ua u32c 1 0 ((((((ua.getD (m-1+i) 0)+(18446744073709551616-((cy+(gq*((lim (b*2^s)).getD i 0:Nat):Nat):Nat)%4294967296:Nat)))%18446744073709551616:Nat)+(18446744073709551616-bo))%18446744073709551616:Nat)%4294967296:Nat) hs oM (fun w138 hs=>?_)
 replace hs:=hs.to [⟨b38,159,(ql).flatMap u32c⟩] [⟨159,1,some ⟨bR136,0,none⟩,rac,(ua).length,(ua.set (m-1+i) ((((((ua.getD (m-1+i) 0)+(18446744073709551616-((cy+(gq*((lim (b*2^s)).getD i 0:Nat):Nat):Nat)%4294967296:Nat)))%18446744073709551616:Nat)+(18446744073709551616-bo))%18446744073709551616:Nat)%4294967296:Nat)).flatMap u32c⟩]
 refine lN (cTo [(4,.slice none 0 0),(5,.slice none 0 0),(8,.int .i64 (s:Nat)),(9,.slice A7 ((lim (b*2^s)).length) c8),(10,.slice (some ⟨bR136,0,none⟩) ((ua).length) rac),(11,.int .i64 ((lim (b*2^s)).length:Nat)),(12,.int .u64 ((lim (b*2^s)).getD (((lim (b*2^s)).length:Nat)-1:Nat) 0:Nat)),(13,.int .u64 ((lim (b*2^s)).getD (((lim (b*2^s)).length:Nat)-2:Nat) 0:Nat)),(14,.slice (some ⟨b38,0,none⟩) (((lim (a*2^s)).length+2)-(lim (b*2^s)).length:Nat) (((lim (a*2^s)).length+2)-(lim (b*2^s)).length:Nat)),(15,.int .i64 (((m:Nat):Int)-1)),(17,.int .u64 (gq:Nat)),(21,.int .i64 (i:Nat)),(19,.int .u64 (cy+(gq*((lim (b*2^s)).getD i 0:Nat):Nat):Nat)),(20,.int .u64 (bo:Nat)),(22,.int .u64 (((((ua.getD (m-1+i) 0)+(18446744073709551616-((cy+(gq*((lim (b*2^s)).getD i 0:Nat):Nat):Nat)%4294967296:Nat)))%18446744073709551616:Nat)+(18446744073709551616-bo))%18446744073709551616:Nat))] ?_)
 refine cSL (lL hs [.m 175 22] (lV 176 (.int .u64 ((((((ua.getD (m-1+i) 0)+(18446744073709551616-((cy+(gq*((lim (b*2^s)).getD i 0:Nat):Nat):Nat)%4294967296:Nat)))%18446744073709551616:Nat)+(18446744073709551616-bo))%18446744073709551616:Nat)/9223372036854775808:Nat)) ?_ (hr:=rint (n:=Int.fdiv ((((((ua.getD (m-1+i) 0)+(18446744073709551616-((cy+(gq*((lim (b*2^s)).getD i 0:Nat):Nat):Nat)%4294967296:Nat)))%18446744073709551616:Nat)+(18446744073709551616-bo))%18446744073709551616:Nat):Int) 9223372036854775808) kR (fdivNat _ 9223372036854775808))))
 refine lL hs [.m 20 176] (lN (CG.listed (lL hs [.m 177 19] (lV 178 (.int .u64 ((cy+(gq*((lim (b*2^s)).getD i 0:Nat):Nat):Nat)/4294967296:Nat)) ?_ (hr:=rint (n:=Int.fdiv ((cy+(gq*((lim (b*2^s)).getD i 0:Nat):Nat):Nat):Int) 4294967296) kR (fdivNat _ 4294967296))))))
 refine lL hs [.m 19 178] (lN (CG.listed (lL hs [.m 145 21] (lIn 146 ((i:Nat)+1) (i+1) ?_))))
 refine lL hs [.m 21 146] (lD ?_)
 intro a_ ka
 have q139:(i+1)≤(lim (b*2^s)).length:=by omega
 have q140:(ua.set (m-1+i) ((((((ua.getD (m-1+i) 0)+(18446744073709551616-((cy+(gq*((lim (b*2^s)).getD i 0:Nat):Nat):Nat)%4294967296:Nat)))%18446744073709551616:Nat)+(18446744073709551616-bo))%18446744073709551616:Nat)%4294967296:Nat)).length=((lim (a*2^s)).length+2):=(by rw[List.length_set];exact hua)
 have q141:Ld (ua.set (m-1+i) ((((((ua.getD (m-1+i) 0)+(18446744073709551616-((cy+(gq*((lim (b*2^s)).getD i 0:Nat):Nat):Nat)%4294967296:Nat)))%18446744073709551616:Nat)+(18446744073709551616-bo))%18446744073709551616:Nat)%4294967296:Nat)):=(hWa.set _ (Nat.mod_lt _ kD))
 have q142:((cy+(gq*((lim (b*2^s)).getD i 0:Nat):Nat):Nat)/4294967296:Nat)<4294967296:=oM
 have q143:((((((ua.getD (m-1+i) 0)+(18446744073709551616-((cy+(gq*((lim (b*2^s)).getD i 0:Nat):Nat):Nat)%4294967296:Nat)))%18446744073709551616:Nat)+(18446744073709551616-bo))%18446744073709551616:Nat)/9223372036854775808:Nat)≤1:=hS2
 have q144:bval 4294967296 (ua.set (m-1+i) ((((((ua.getD (m-1+i) 0)+(18446744073709551616-((cy+(gq*((lim (b*2^s)).getD i 0:Nat):Nat):Nat)%4294967296:Nat)))%18446744073709551616:Nat)+(18446744073709551616-bo))%18446744073709551616:Nat)%4294967296:Nat))+4294967296^(m-1)*(gq*bval 4294967296 ((lim (b*2^s)).take (i+1)))=lval u+4294967296^(m-1+(i+1))*(((cy+(gq*((lim (b*2^s)).getD i 0:Nat):Nat):Nat)/4294967296:Nat)+((((((ua.getD (m-1+i) 0)+(18446744073709551616-((cy+(gq*((lim (b*2^s)).getD i 0:Nat):Nat):Nat)%4294967296:Nat)))%18446744073709551616:Nat)+(18446744073709551616-bo))%18446744073709551616:Nat)/9223372036854775808:Nat)):=(ms_step (t:=((cy+(gq*((lim (b*2^s)).getD i 0:Nat):Nat):Nat))%4294967296) oM inv1 (Nat.mod_add_div _ _ |>.trans oM) oM)
 have q145:Above (ua.set (m-1+i) ((((((ua.getD (m-1+i) 0)+(18446744073709551616-((cy+(gq*((lim (b*2^s)).getD i 0:Nat):Nat):Nat)%4294967296:Nat)))%18446744073709551616:Nat)+(18446744073709551616-bo))%18446744073709551616:Nat)%4294967296:Nat)) u (m-1+(lim (b*2^s)).length+1):=(hab1.set oM oM)
 replace hs:=hs.rown [⟨159,1,some ⟨bR136,0,none⟩,rac,(ua.set (m-1+i) ((((((ua.getD (m-1+i) 0)+(18446744073709551616-((cy+(gq*((lim (b*2^s)).getD i 0:Nat):Nat):Nat)%4294967296:Nat)))%18446744073709551616:Nat)+(18446744073709551616-bo))%18446744073709551616:Nat)%4294967296:Nat)).length,(ua.set (m-1+i) ((((((ua.getD (m-1+i) 0)+(18446744073709551616-((cy+(gq*((lim (b*2^s)).getD i 0:Nat):Nat):Nat)%4294967296:Nat)))%18446744073709551616:Nat)+(18446744073709551616-bo))%18446744073709551616:Nat)%4294967296:Nat)).flatMap u32c⟩] (by simp only[List.length_set])
 refine ⟨_,_,?_,⟨i+1,some ⟨bR136,0,none⟩,rac,ua.set (m-1+i) ((((((ua.getD (m-1+i) 0)+(18446744073709551616-((cy+(gq*((lim (b*2^s)).getD i 0:Nat):Nat):Nat)%4294967296:Nat)))%18446744073709551616:Nat)+(18446744073709551616-bo))%18446744073709551616:Nat)%4294967296:Nat),((cy+(gq*((lim (b*2^s)).getD i 0:Nat):Nat):Nat)/4294967296:Nat),((((((ua.getD (m-1+i) 0)+(18446744073709551616-((cy+(gq*((lim (b*2^s)).getD i 0:Nat):Nat):Nat)%4294967296:Nat)))%18446744073709551616:Nat)+(18446744073709551616-bo))%18446744073709551616:Nat)/9223372036854775808:Nat),h89,rfl,rfl,hs.to _ _,q139,q140,q141,q142,q143,q144,q145⟩,ka.to [(4,.slice none 0 0),(5,.slice none 0 0),(8,.int .i64 (s:Nat)),(9,.slice A7 ((lim (b*2^s)).length) c8),(10,.slice (some ⟨bR136,0,none⟩) (((ua.set (m-1+i) ((((((ua.getD (m-1+i) 0)+(18446744073709551616-((cy+(gq*((lim (b*2^s)).getD i 0:Nat):Nat):Nat)%4294967296:Nat)))%18446744073709551616:Nat)+(18446744073709551616-bo))%18446744073709551616:Nat)%4294967296:Nat))).length) rac),(11,.int .i64 ((lim (b*2^s)).length:Nat)),(12,.int .u64 ((lim (b*2^s)).getD (((lim (b*2^s)).length:Nat)-1:Nat) 0:Nat)),(13,.int .u64 ((lim (b*2^s)).getD (((lim (b*2^s)).length:Nat)-2:Nat) 0:Nat)),(14,.slice (some ⟨b38,0,none⟩) (((lim (a*2^s)).length+2)-(lim (b*2^s)).length:Nat) (((lim (a*2^s)).length+2)-(lim (b*2^s)).length:Nat)),(15,.int .i64 (((m:Nat):Int)-1)),(17,.int .u64 (gq:Nat)),(21,.int .i64 ((i+1):Nat)),(19,.int .u64 (((cy+(gq*((lim (b*2^s)).getD i 0:Nat):Nat):Nat)/4294967296:Nat):Nat)),(20,.int .u64 (((((((ua.getD (m-1+i) 0)+(18446744073709551616-((cy+(gq*((lim (b*2^s)).getD i 0:Nat):Nat):Nat)%4294967296:Nat)))%18446744073709551616:Nat)+(18446744073709551616-bo))%18446744073709551616:Nat)/9223372036854775808:Nat):Nat))] (by simp only[List.length_set];kernel_rfl)⟩
 omega
end Go.Proofs.YtnbjahmpennmkaaGreatDoor
