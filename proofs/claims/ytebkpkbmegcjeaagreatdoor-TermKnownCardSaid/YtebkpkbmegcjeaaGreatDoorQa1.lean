/- Laws and contracts that the card of this claim stands on, part 2. No condition of ours. -/
import Derived.Test.YtebkpkbmegcjeaaGreatDoorQa0
set_option maxRecDepth 100000
set_option maxHeartbeats 4000000
namespace Go.Proofs.YtebkpkbmegcjeaaGreatDoor
open Go.RowKit
theorem oN {n:Nat}(h:(wds n).length≤1):n<18446744073709551616:=by
 rcases Nat.lt_or_ge n 18446744073709551616 with h1|h1
 ·exact h1
 ·have:=cG h1;omega
theorem mj {a b:Nat}(hlen:(wds a).length-1=(wds b).length-1)(hd:(wds a).drop 1=(wds b).drop 1):bK (a%18446744073709551616) (b%18446744073709551616)=bK a b:=by
 rcases Nat.lt_or_ge 1 (wds a).length with h|h
 ·exact k9 oM hd
 ·rw[Nat.mod_eq_of_lt (oN h),Nat.mod_eq_of_lt (oN oM)]
theorem rD {n:Nat}(h:0<n):nb n=64*((wds n).length-1)+nb ((wds n).getD ((wds n).length-1) 0):=by
 have hp:=iX.2 h;have e:=aJ 18446744073709551616 (l:=wds n) (k:=(wds n).length-1) oM;rw[show (wds n).length-1+1=(wds n).length by omega,List.take_length] at e
 have e1:ak 18446744073709551616 (wds n)=n:=aI n;have hlt:=bM (Dg.take (Wd.wds n) ((wds n).length-1));rw[List.length_take,Nat.min_eq_left oM] at hlt
 have e2:(18446744073709551616:Nat)^((wds n).length-1)=2^(64*((wds n).length-1)):=by rw[Nat.pow_mul]
 rw[e1,e2] at e
 rw[e2] at hlt
 have:=Bb hlt (Nat.pos_of_ne_zero (jl h));rw[←e] at this
 exact this
theorem gf {n:Nat}(h:n<18446744073709551616):Value.agg #[.int .u64 (n:Int),.string ⟨#[]⟩]=nv n:=by unfold nv;rw[gM h,jn h]
theorem eg {n:Nat}:(wds n).length≤1↔n<18446744073709551616:=by
 constructor
 ·intro h
  rcases Nat.lt_or_ge n 18446744073709551616 with h1|h1
  ·exact h1
  ·have:=cG h1;omega
 ·intro h
  rcases Nat.eq_zero_or_pos n with h0|h0
  ·subst h0;simp[gA]
  ·rw[bj h0 h];simp
structure HalfQ (Y y1 y0 u u1 q r:Nat):Prop where
  e:q*y1+r=u
  lt:u*4294967296+u1<(q+1)*Y
  qb:q≤4294967297
theorem jq {Y y1 y0 u u1:Nat}(hY:Y=y1*4294967296+y0)(h1:u1<4294967296)(hn:2147483648≤y1)(h0:y0<4294967296)(hu:u<Y):HalfQ Y y1 y0 u u1 (u/y1) (u-u/y1*y1):=by
 have hm:u/y1*y1≤u:=Nat.div_mul_le_self u y1
 have hlt:u<(u/y1+1)*y1:=by
  have:=Nat.lt_div_mul_add (a:=u) (b:=y1) oM;rw[Nat.add_mul,Nat.one_mul];exact this
 refine ⟨by omega,?_,?_⟩
 ·have:(u/y1+1)*Y=(u/y1+1)*y1*4294967296+(u/y1+1)*y0:=by rw[hY,Nat.mul_add,Nat.mul_assoc]
  omega
 ·have h2:u/y1<4294967298:=by
   rw[Nat.div_lt_iff_lt_mul oM]
   omega
  omega
theorem kg {u y1:Nat}(h:0<y1):u-u/y1*y1<y1:=by
 have:=Nat.lt_div_mul_add (a:=u) (b:=y1) h;have hm:u/y1*y1≤u:=Nat.div_mul_le_self u y1
 omega
theorem HalfQ.dec {Y y1 y0 u u1 q r:Nat}(h:HalfQ Y y1 y0 u u1 q r)(hY:Y=y1*4294967296+y0)(h1:u1<4294967296)(hu:u<Y)(ht:4294967296≤q∨4294967296*r+u1<q*y0):HalfQ Y y1 y0 u u1 (q-1) (r+y1):=by
 have hq:0<q:=by
  rcases ht with h2|h2
  ·omega
  ·rcases Nat.eq_zero_or_pos q with h3|h3
   ·subst h3;omega
   ·exact h3
 obtain ⟨p,rfl⟩:∃ p,q=p+1:=⟨q-1,by omega⟩;have e:=h.e;rw[Nat.add_mul,Nat.one_mul] at e
 refine ⟨by rw[Nat.add_sub_cancel];omega,?_,by have:=h.qb;omega⟩;rw[Nat.add_sub_cancel]
 rcases ht with h2|h2
 ·have:4294967296*Y≤(p+1)*Y:=Nat.mul_le_mul_right _ h2
  omega
 ·have:(p+1)*Y=(p+1)*y1*4294967296+(p+1)*y0:=by rw[hY,Nat.mul_add,Nat.mul_assoc]
  rw[Nat.add_mul p 1 y1,Nat.one_mul] at this
  omega
theorem HalfQ.fin {Y y1 y0 u u1 q r:Nat}(h:HalfQ Y y1 y0 u u1 q r)(hY:Y=y1*4294967296+y0)(ht:¬4294967296*r+u1<q*y0):q=(u*4294967296+u1)/Y∧(u*4294967296+u1)-q*Y=(u*4294967296+u1)%Y∧q*Y≤u*4294967296+u1:=by
 have hle:q*Y≤u*4294967296+u1:=by
  have:q*Y=q*y1*4294967296+q*y0:=by rw[hY,Nat.mul_add,Nat.mul_assoc]
  have:=h.e
  omega
 have hq:q=(u*4294967296+u1)/Y:=(Nat.div_eq_of_lt_le hle h.lt).symm;have hd:=Nat.div_add_mod (u*4294967296+u1) Y;rw[←hq,Nat.mul_comm] at hd
 exact ⟨hq,by omega,hle⟩
theorem HalfQ.brk {Y y1 y0 u u1 q r:Nat}(h:HalfQ Y y1 y0 u u1 q r)(hY:Y=y1*4294967296+y0)(h0:y0<4294967296)(hr:4294967296≤r)(hq:q≤4294967296):q=(u*4294967296+u1)/Y∧(u*4294967296+u1)-q*Y=(u*4294967296+u1)%Y∧q*Y≤u*4294967296+u1 :=
 h.fin hY (by
  have:q*y0≤4294967296*y0:=Nat.mul_le_mul_right _ hq
  omega)
theorem kd {A y s Y Q R:Nat}(hYs:Y=y*2^s)(hA:A*2^s=Y*Q+R)(hm:R<Y):A=y*Q+R/2^s∧R/2^s<y:=by
 have hp:0<2^s:=Nat.two_pow_pos s;have e:y*Q*2^s=Y*Q:=by rw[hYs];ac_rfl
 have hle:y*Q≤A:=by
  have:y*Q*2^s≤A*2^s:=by rw[hA,e];omega
  exact Nat.le_of_mul_le_mul_right this hp
 have hR2:R=(A-y*Q)*2^s:=by rw[Nat.sub_mul,hA,e];omega
 rw[hR2,Nat.mul_div_cancel _ hp];refine ⟨by omega,?_⟩;have:(A-y*Q)*2^s<y*2^s:=by rw[←hR2,←hYs];exact hm
 exact Nat.lt_of_mul_lt_mul_right this
theorem o6 {A y s u32 u10 Y u1 u0 q1 r1 q0 R:Nat}(hYs:Y=y*2^s)(hN:A*2^s=u32*18446744073709551616+u10)(h10:u10=u1*4294967296+u0)(hy:0<y)
  (e1:q1=(u32*4294967296+u1)/Y)(e2:r1=(u32*4294967296+u1)%Y)(e3:q0=(r1*4294967296+u0)/Y)(e4:R=(r1*4294967296+u0)%Y) :
  A=y*(q1*4294967296+q0)+R/2^s∧R/2^s<y:=by
 have hYp:0<Y:=by rw[hYs];exact Nat.mul_pos hy (Nat.two_pow_pos s)
 have d1:=Nat.div_add_mod (u32*4294967296+u1) Y;have d0:=Nat.div_add_mod (r1*4294967296+u0) Y;rw[←e1,←e2] at d1
 rw[←e3,←e4] at d0
 have hm:R<Y:=by rw[e4];exact Nat.mod_lt _ hYp
 refine kd hYs ?_ hm;rw[hN,h10,Nat.mul_add,←Nat.mul_assoc]
 clear e1 e2 e3 e4 hN h10 hm hYs hYp hy
 omega
theorem oc {y:Nat}(h0:0<y)(h:y<18446744073709551616):9223372036854775808≤y*2^(64-nb y)∧y*2^(64-nb y)<18446744073709551616:=by
 obtain ⟨s1,s2,s3⟩:=bX h0;have hle:nb y≤64:=ke (k:=64) h
 have e1:(2:Nat)^(nb y-1)*2^(64-nb y)=9223372036854775808:=by
  rw[←Nat.pow_add,show nb y-1+(64-nb y)=63 by omega]
 have e2:(2:Nat)^nb y*2^(64-nb y)=18446744073709551616:=by
  rw[←Nat.pow_add,show nb y+(64-nb y)=64 by omega]
 have a1:=Nat.mul_le_mul_right (2^(64-nb y)) s1;have a2:=Nat.mul_lt_mul_of_pos_right s2 (Nat.two_pow_pos (64-nb y))
 omega
theorem vP {hi lo s:Nat}(hs:s≤64)(hl:lo<18446744073709551616):(hi*18446744073709551616+lo)*2^s=(hi*2^s+lo/2^(64-s))*18446744073709551616+lo*2^s%18446744073709551616∧lo/2^(64-s)<2^s:=by
 have e:(18446744073709551616:Nat)=2^(64-s)*2^s:=by rw[←Nat.pow_add,show 64-s+s=64 by omega]
 have h1:lo*2^s/18446744073709551616=lo/2^(64-s):=by
  rw[e,Nat.mul_div_mul_right _ _ (Nat.two_pow_pos s)]
 have h2:=Nat.div_add_mod (lo*2^s) 18446744073709551616;rw[h1] at h2
 constructor
 ·rw[Nat.add_mul,Nat.add_mul]
  have:hi*18446744073709551616*2^s=hi*2^s*18446744073709551616:=by ac_rfl
  omega
 ·rw[Nat.div_lt_iff_lt_mul (Nat.two_pow_pos _),Nat.mul_comm,←e];exact hl
theorem j5 {a b q Y r:Nat}(h:q*Y≤a*4294967296+b)(hr:a*4294967296+b-q*Y=r)(hrb:r<18446744073709551616):((a*4294967296%18446744073709551616+b)%18446744073709551616+(18446744073709551616-q*Y%18446744073709551616))%18446744073709551616=r:=by
 generalize q*Y=m at *
 omega
theorem wA {a b:Nat}(ha:a<4294967296)(hb:b<4294967296):a*b<18446744073709551616:=by
 have:a*b≤4294967295*4294967295:=Nat.mul_le_mul oM oM
 omega
theorem ct {a b c:Nat}(h:c<a*b):0<a:=by
 rcases Nat.eq_zero_or_pos a with h0|h0
 ·rw[h0,Nat.zero_mul] at h;omega
 ·exact h0
theorem li {u u1 Y:Nat}(h:u<Y)(h1:u1<4294967296):(u*4294967296+u1)/Y<4294967296:=by
 rw[Nat.div_lt_iff_lt_mul oM];have:(u+1)*4294967296≤Y*4294967296:=Nat.mul_le_mul_right _ h
 omega
theorem rF {p:Nat}(h:p≤64):(18446744073709551616:Nat)=2^(64-p)*2^p:=by rw[←Nat.pow_add,show 64-p+p=64 by omega]
theorem qV {x p o:Nat}(hp:p≤64)(hx:x<18446744073709551616)(ho:o<2^p) :
  o ||| (x*2^p%18446744073709551616)=o+x*2^p%18446744073709551616∧o+x*2^p%18446744073709551616<18446744073709551616∧x*2^p%18446744073709551616+18446744073709551616*(x/2^(64-p))=x*2^p∧x/2^(64-p)<2^p:=by
 have e:=rF hp
 have hm:x*2^p%18446744073709551616=x%2^(64-p)*2^p:=by
  conv=>lhs;rw[e]
  exact Nat.mul_mod_mul_right _ _ _
 have hlt:x%2^(64-p)<2^(64-p):=Nat.mod_lt _ (Nat.two_pow_pos _);refine ⟨by rw[hm];exact fw p ho,?_,?_,?_⟩
 ·rw[hm]
  have:(x%2^(64-p)+1)*2^p≤2^(64-p)*2^p:=Nat.mul_le_mul_right _ hlt;rw[←e,Nat.add_mul] at this
  omega
 ·have h1:x*2^p/18446744073709551616=x/2^(64-p):=by
   conv=>lhs;rw[e]
   exact Nat.mul_div_mul_right _ _ (Nat.two_pow_pos _)
  rw[←h1];exact Nat.mod_add_div _ _
 ·rw[Nat.div_lt_iff_lt_mul (Nat.two_pow_pos _),Nat.mul_comm,←e];exact hx
theorem qR {l w:List Nat}{i q p x o a c:Nat}(hl:i+q+1<l.length)(hv:aA l=2^p*(18446744073709551616^q*ak 18446744073709551616 (w.take i)))(h0:l.getD (i+q+1) 0=0)(hs:a+18446744073709551616*c=x*2^p)(hx:x=w.getD i 0)(ho:o=l.getD (i+q) 0) :
  aA ((l.set (i+q) (o+a)).set (i+q+1) c)=2^p*(18446744073709551616^q*ak 18446744073709551616 (w.take (i+1))):=by
 have s1:=ci 18446744073709551616 (l:=l) (k:=i+q) (o+a) oM;have s2:=ci 18446744073709551616 (l:=l.set (i+q) (o+a)) (k:=i+q+1) c (by rw[List.length_set];omega);rw[bq oM,if_neg oM,h0] at s2
 rw[←ho] at s1
 have e3:2^p*(18446744073709551616^q*ak 18446744073709551616 (w.take (i+1)))=aA l+18446744073709551616^(i+q)*(x*2^p):=by
  rw[aR,hv,←hx,Nat.mul_add,Nat.mul_add,Nat.pow_add]
  congr 1
  ac_rfl
 rw[e3,←hs];rw[Nat.pow_succ] at s2
 show ak 18446744073709551616 _=ak 18446744073709551616 l+_
 simp only[Nat.mul_add,←Nat.mul_assoc] at s1 s2 ⊢
 omega
theorem r8 (n:Nat):(2:Nat)^n=18446744073709551616^(n/64)*2^(n%64):=by
 have:n=64*(n/64)+n%64:=by omega
 conv=>lhs;rw[this,Nat.pow_add,Nat.pow_mul]
theorem lJ {x y p:Nat}(hp:p≤64)(hx:x<18446744073709551616) :
  (x/2^p) ||| (y*2^(64-p)%18446744073709551616)=x/2^p+y*2^(64-p)%18446744073709551616∧x/2^p+y*2^(64-p)%18446744073709551616<18446744073709551616∧2^p*(x/2^p+y*2^(64-p)%18446744073709551616)+x%2^p=x+18446744073709551616*(y%2^p):=by
 have e:=rF hp;have e':(18446744073709551616:Nat)=2^p*2^(64-p):=by rw[Nat.mul_comm];exact e
 have hm:y*2^(64-p)%18446744073709551616=y%2^p*2^(64-p):=by
  conv=>lhs;rw[e']
  exact Nat.mul_mod_mul_right _ _ _
 have ho:x/2^p<2^(64-p):=by rw[Nat.div_lt_iff_lt_mul (Nat.two_pow_pos _),←e];exact hx
 have hlt:y%2^p<2^p:=Nat.mod_lt _ (Nat.two_pow_pos _);refine ⟨by rw[hm];exact fw (64-p) ho,?_,?_⟩
 ·rw[hm]
  have:(y%2^p+1)*2^(64-p)≤2^p*2^(64-p):=Nat.mul_le_mul_right _ hlt;rw[←e',Nat.add_mul] at this
  omega
 ·rw[hm,Nat.mul_add]
  have h1:=Nat.div_add_mod x (2^p);have h2:2^p*(y%2^p*2^(64-p))=18446744073709551616*(y%2^p):=by rw[e'];ac_rfl
  omega
theorem mH {l W:List Nat}{i p d r0:Nat}(hl:i<l.length)(inv:2^p*ak 18446744073709551616 l+r0=ak 18446744073709551616 (W.take i)+18446744073709551616^i*(W.getD i 0%2^p))(h0:l.getD i 0=0)(hd:2^p*d+W.getD i 0%2^p=W.getD i 0+18446744073709551616*(W.getD (i+1) 0%2^p)) :
  2^p*ak 18446744073709551616 (l.set i d)+r0=ak 18446744073709551616 (W.take (i+1))+18446744073709551616^(i+1)*(W.getD (i+1) 0%2^p):=by
 have s1:=ci 18446744073709551616 (l:=l) (k:=i) d hl;rw[h0] at s1
 rw[aR,Nat.pow_succ];have e1:18446744073709551616^i*(2^p*d+W.getD i 0%2^p)=18446744073709551616^i*(W.getD i 0+18446744073709551616*(W.getD (i+1) 0%2^p)):=by rw[hd]
 have e2:ak 18446744073709551616 (l.set i d)=ak 18446744073709551616 l+18446744073709551616^i*d:=by omega
 rw[e2,Nat.mul_add];have e3:2^p*(18446744073709551616^i*d)=18446744073709551616^i*(2^p*d):=by ac_rfl
 rw[e3]
 simp only[Nat.mul_add,←Nat.mul_assoc] at e1 ⊢
 simp only[Nat.mul_assoc] at e1 inv ⊢
 omega
theorem wl {l W:List Nat}{p m:Nat}(hm:W.length≤m)(inv:2^p*ak 18446744073709551616 l+W.getD 0 0%2^p=ak 18446744073709551616 (W.take m)+18446744073709551616^m*(W.getD m 0%2^p)):aA l=aA W/2^p:=by
 rw[List.take_of_length_le hm] at inv
 have h0:W.getD m 0=0:=by simp[List.getElem?_eq_none hm]
 rw[h0,Nat.zero_mod,Nat.mul_zero,Nat.add_zero] at inv
 have hp:=Nat.two_pow_pos p;have hl:=Nat.mod_lt (W.getD 0 0) hp
 show ak _ l=ak _ W/_
 rw[←inv,Nat.mul_add_div hp,Nat.div_eq_of_lt hl,Nat.add_zero]
theorem kf {w:List Nat}(hw:Wd w){q:Nat}(hq:q≤w.length):aA (w.drop q)=aA w/18446744073709551616^q:=by
 have e:=bJ 18446744073709551616 hq;have h1:=bM (Dg.take hw q);rw[List.length_take,Nat.min_eq_left hq] at h1
 show ak _ _=ak _ w/_
 rw[e,Nat.add_mul_div_left _ _ (Nat.pow_pos kD),Nat.div_eq_of_lt h1,Nat.zero_add]
def mN (x:Nat):List Value:=[.int .u8 (x:Nat)]
theorem ni {b:Nat}(hb:0<b){l:List Nat}(h:Dg b l)(j:Nat):l.getD j 0=ak b l/b^j%b:=by
 rcases Nat.lt_or_ge j l.length with hj|hj
 ·have h1:=bJ b (l:=l) (k:=j) oM
  have h2:=dO b (l:=l) (k:=j) hj;have h3:=bM (Dg.take h j);rw[List.length_take,Nat.min_eq_left oM] at h3
  have hp:0<b^j:=Nat.pow_pos hb;rw[h1,Nat.add_mul_div_left _ _ hp,Nat.div_eq_of_lt h3,Nat.zero_add,h2,Nat.add_mul_mod_self_left,Nat.mod_eq_of_lt (h.getD hb j)]
 ·rw[bC hj,Nat.div_eq_of_lt,Nat.zero_mod]
  exact Nat.lt_of_lt_of_le (bM h) (Nat.pow_le_pow_right hb hj)
theorem rE {b:Nat}{l:List Nat}{k P:Nat}(hk:k<l.length)(hb:0<b)(h:ak b l<b^k*P):l.getD k 0<P:=by
 have h1:=bJ b (l:=l) (k:=k) oM;have h2:=dO b (l:=l) (k:=k) hk;have hp:0<b^k:=Nat.pow_pos hb;refine Nat.lt_of_mul_lt_mul_left (a:=b^k) ?_;have h3:b^k*l.getD k 0≤b^k*ak b (l.drop k):=Nat.mul_le_mul_left _ (by rw[h2];omega)
 omega
theorem nB (k:Nat):(256:Nat)^k=18446744073709551616^(k/8)*2^(8*(k%8)):=by
 have:k=8*(k/8)+k%8:=by omega
 conv=>lhs;rw[this,Nat.pow_add,Nat.pow_mul]
 rw[Nat.pow_mul 2 8]
theorem l8 {l:List Nat}(hW:Wd l)(k:Nat):l.getD (k/8) 0/2^(8*(k%8))%256=aA l/256^k%256:=by
 rw[ni kD hW (k/8),nB,←Nat.div_div_eq_div_mul]
 show _=ak 18446744073709551616 l/_/_%256
 generalize ak 18446744073709551616 l/18446744073709551616^(k/8)=y
 have:k%8=0∨k%8=1∨k%8=2∨k%8=3∨k%8=4∨k%8=5∨k%8=6∨k%8=7:=by omega
 rcases this with h|h|h|h|h|h|h|h<;>rw[h]<;>omega
theorem qw (n k:Nat):(wds n).getD (k/8) 0/2^(8*(k%8))%256=n/256^k%256:=by
 rw[l8 (Wd.wds n),aI]
theorem s8 {b k:Nat}(hb:b<256):b*2^(8*(k%8))<18446744073709551616:=by
 have:k%8=0∨k%8=1∨k%8=2∨k%8=3∨k%8=4∨k%8=5∨k%8=6∨k%8=7:=by omega
 rcases this with h|h|h|h|h|h|h|h<;>rw[h]<;>omega
theorem o7 {a b k:Nat}(ha:a<2^(8*(k%8)))(hb:b<256):a+b*2^(8*(k%8))<18446744073709551616:=by
 have:k%8=0∨k%8=1∨k%8=2∨k%8=3∨k%8=4∨k%8=5∨k%8=6∨k%8=7:=by omega
 rcases this with h|h|h|h|h|h|h|h<;>rw[h] at ha ⊢ <;> omega
theorem oX {l:List Nat}{n k x:Nat}(hk:k/8<l.length)(inv:aA l=n%256^k)(hx:x=n/256^k%256) :
  (l.getD (k/8) 0 ||| x*2^(8*(k%8))%18446744073709551616)=l.getD (k/8) 0+x*2^(8*(k%8))∧l.getD (k/8) 0+x*2^(8*(k%8))<18446744073709551616 ∧
  aA (l.set (k/8) (l.getD (k/8) 0+x*2^(8*(k%8))))=n%256^(k+1):=by
 have hb:x<256:=by rw[hx];exact Nat.mod_lt _ oM
 have hlt:aA l<256^k:=by rw[inv];exact Nat.mod_lt _ (Nat.pow_pos oM)
 have hd:l.getD (k/8) 0<2^(8*(k%8)):=rE (b:=18446744073709551616) hk kD (by rw[←nB];exact hlt);refine ⟨?_,o7 hd hb,?_⟩
 ·rw[Nat.mod_eq_of_lt (s8 hb)];exact fw _ hd
 ·have e:=ci 18446744073709551616 (l:=l) (k:=k/8) (l.getD (k/8) 0+x*2^(8*(k%8))) hk
  rw[rZ,←hx,←inv]
  show ak _ _=ak _ l+_
  have e2:256^k*x=18446744073709551616^(k/8)*(x*2^(8*(k%8))):=by rw[nB k];ac_rfl
  rw[Nat.mul_add] at e
  rw[e2]
  omega
theorem wI (n:Nat):n<256^((nb n+7)/8):=by
 have h:=Cj n;have e:(256:Nat)^((nb n+7)/8)=2^(8*((nb n+7)/8)):=by rw[Nat.pow_mul]
 rw[e];exact Nat.lt_of_lt_of_le h (Nat.pow_le_pow_right oM oM)
theorem jf (n:Nat):nb n≤64*(wds n).length:=by
 apply ke
 have:=cu n
 rwa [show (18446744073709551616:Nat)=2^64 by rfl,←Nat.pow_mul] at this
theorem jo (n:Nat):(wds n).length=(nb n+63)/64:=by
 rcases Nat.eq_zero_or_pos n with h|h
 ·subst h;rfl
 ·have h1:=rD h
  have h2:=jl h;have h3:=ku n ((wds n).length-1);have h4:=iX.2 h
  generalize (wds n).getD ((wds n).length-1) 0=t at *
  have h5:=(bX (Nat.pos_of_ne_zero h2)).2.2;have h6:nb t≤64:=ke (k:=64) h3
  omega
section ss
variable {w0:World} {h0:Hp} {w:World} {h:Hp} {B:List Bx} {R:List Rw} {F:List (Hp→Prop)}
end ss
section laws
variable {M:Ms} {P:Program} {n:Nat} {N R:Po} {X:Nat→Po} {ops:Array Oper} {k k0:Nat} {hr:Hp} {AL:List Al} {L:Array Bool} {Γ:bI} {w:World} {h:Hp} {w0:World} {h0:Hp} {B:List Bx} {Rs:List Rw} {F:List (Hp→Prop)}
theorem SlO.flat {α:Type}{sz:Nat}{f:α→List Value}{d:α}{A:Option Addr}:∀ {l:List α},(∀ x,(f x).length=sz)→SlO sz f d h A l→Seg h (aB A) (aO A) (l.flatMap f)
  | l,hf,s=>fun i v hv=>by
    have hi:i<(l.flatMap f).length:=(List.getElem?_eq_some_iff.1 hv).1;rw[dq hf] at hi
    rcases Nat.eq_zero_or_pos sz with h0'|hp
    · subst h0';simp at hi
    · have hk:i/sz<l.length:=(Nat.div_lt_iff_lt_mul hp).2 hi
      have hr:i%sz<sz:=Nat.mod_lt _ hp;have he:=s.el (i/sz) hk (i%sz) v;have hd:=eu hf d l (i/sz) hk;have hm:i/sz*sz+i%sz=i:=by rw[Nat.mul_comm];exact Nat.div_add_mod i sz
      have:=he (by rw[←hd,List.getElem?_take_of_lt hr,List.getElem?_drop,hm];exact hv)
      rwa [Nat.add_assoc,hm] at this
theorem pT {b o:Nat}{news:List Value}(g:G w h)(sg:Seg h b o news):∀ j u,news[j]?=some u→w.cell? ((⟨b,o,none⟩:Addr).add j)=some u:=by
 intro j u hu;have:=iy g (sg j u hu)
 unfold Addr.add
 split
 ·rename_i h0;subst h0;exact this
 ·exact this
theorem kT (j o:Nat)(cs:List Value)(s:SS w0 h0 w h B Rs F)(H:∀ w',Put (aw B j).b w w'→SS w0 h0 w' h (eo B j o cs) Rs F→LG P n N R X ops (k+1) Γ w')(hc:cS ops Γ k=true:=by kernel_rfl)
  (hj:(decide (j<B.length) && decide (o+cs.length≤(aw B j).vs.length))=true:=by kernel_rfl)(he:cV P (execOp (ev Γ) (am ops k))=some (.skip,kI (aw B j).b o cs):=by kernel_rfl):LG P n N R X ops k Γ w :=
 LG.put j o cs s.st s.g0 (jT hc).1 (jT hc).2 hj he (fun w' p s'=>H w' p (s.put0 (oT (Bool.and_eq_true _ _▸hj).1) p s' (ji (oT (Bool.and_eq_true _ _▸hj).1))))
theorem tX (i t:Nat)(A:Option Addr)(len cap sz:Nat)(x:Int)(j:Nat)(hA:A=some ⟨aB A,aO A,none⟩)(H:AG M P n N R X ops k0 (L.setIfInBounds i true) ((t,.pointer (some ⟨aB A,aO A+j*sz,none⟩))::Γ) w)(hc:cT n ops k0 L Γ i t=true:=by kernel_rfl)(he:tM P (ev Γ) (am ops i)=some (.slice A len cap,.int .i64 x,sz):=by kernel_rfl)(hk:x=j:=by omega)(hlt:j<len:=by omega):AG M P n N R X ops k0 L Γ w :=
 T.val i t _ w (mr hc).1 (mr hc).2 (eL he hA hk hlt w) H
theorem SS.blkp {F1:List (Hp→Prop)}{wr:World}{x:Al}{b:Nat}(pre:List Bx)(sr:SS w0 h0 wr hr B Rs F1)(s:SS w0 h0 w h (pre++B) Rs F)(k:Blk hr w h (x,b))(t:TypeId)(vs:List Value)(ho:x.o=.cells vs.toArray t (0,0))(hp:pre.all (fun y=>y.t != t)=true):SS w0 h0 w h (⟨b,t,vs⟩::(pre++B)) Rs F :=
 ⟨s.g0,St.new sr.st s.st (fun y hy=>by
  rcases List.mem_append.1 hy with hy|hy
  ·right
   intro e;have h1:=s.st.own y (List.mem_append_left _ hy);have h2:w.heap[b]?=some x.o:=k.1
   unfold Own at h1
   rw[e,h2,ho] at h1
   injection h1 with h1
   injection h1 with _ h3
   have:=(List.all_eq_true.1 hp) y hy
   simp only[bne_iff_ne,ne_eq] at this
   exact this h3.symm
  ·exact .inl (aN (sr.st.jk y hy))) k t vs ho,fun r hr'=>(s.ro r hr').new b (fun c hc e=>by
  have h1:=(sr.ro r hr').lt hc;have h2:hr.size≤b:=k.2.2
  omega),s.ap,s.mo,s.f⟩
theorem iO {F1:List (Hp→Prop)}{wr:World}{x:Al}(pre:List Bx)(sr:SS w0 h0 wr hr B Rs F1)(s:SS w0 h0 w h (pre++B) Rs F)(t:TypeId)(vs:List Value)(H:∀ w' h' b,SS w0 h0 w' h' (⟨b,t,vs⟩::(pre++B)) Rs F→AG M P n N R X ops k0 (L.setIfInBounds x.i true) ((x.t,.pointer (some ⟨b,0,none⟩))::Γ) w')(hc:(dX ops [x] L && decide (x.t<n))=true:=by kernel_rfl)(ho:x.o=.cells vs.toArray t (0,0):=by kernel_rfl)(hp:pre.all (fun y=>y.t != t)=true:=by kernel_rfl):EG M P n N R X ops k0 hr [x] L Γ w h :=
 Rg.fin1 hc (fun w' h' b u k=>H w' h' b (SS.blkp pre sr (s.step u) k t vs ho hp))
end laws
theorem SS.at_ {w:World}{h:Hp}{rb:Nat}{t:TypeId}{vs:List Value}(g:G w h)(o:Own w rb t vs)(j:h[rb]?=some junk):∃ w0 h0,SS w0 h0 w h [⟨rb,t,vs⟩] [] []:=by
 obtain ⟨w0,h0,g0,st⟩:=St.at_ g o j;exact ⟨w0,h0,g0,st,fun _ hx=>(by cases hx),.nil,fun _ hx=>(by cases hx),trivial⟩
theorem SlO.take {α:Type}{sz:Nat}{f:α→List Value}{d:α}{h:Hp}{A:Option Addr}{l:List α}(s:SlO sz f d h A l)(k:Nat):SlO sz f d h A (l.take k) :=
 ⟨fun hp=>s.ok (by rw[List.length_take] at hp;omega),fun i hi=>by
  rw[List.length_take] at hi
  have:=s.el i oM
  rwa [List.getD_eq_getElem?_getD,List.getElem?_take_of_lt oM,←List.getD_eq_getElem?_getD]⟩
theorem SlO.drop {α:Type}{sz:Nat}{f:α→List Value}{d:α}{h:Hp}{A:Option Addr}{l:List α}(s:SlO sz f d h A l)(k c:Nat)(hc:l.length≤c):SlO sz f d h (if c=k then A else A.map (·.add (k*sz))) (l.drop k):=by
 rcases Nat.lt_or_ge k l.length with hk|hk
 ·rw[if_neg oM]
  have hA:=s.ok oM
  have hadd:(⟨aB A,aO A,none⟩:Addr).add (k*sz)=⟨aB A,aO A+k*sz,none⟩:=by
   unfold Addr.add
   split
   ·rename_i h0;rw[h0];rfl
   ·rfl
  have e:A.map (·.add (k*sz))=some ⟨aB A,aO A+k*sz,none⟩:=by rw[hA];simp only[Option.map_some,aB,aO] at hadd ⊢;rw[←hadd]
  refine ⟨fun _=>by rw[e];rfl,fun i hi=>?_⟩;rw[e]
  show Seg h (aB A) (aO A+k*sz+i*sz) _
  rw[List.length_drop] at hi
  have:=s.el (k+i) oM;rw[Nat.add_mul,←Nat.add_assoc] at this
  rwa [List.getD_eq_getElem?_getD,List.getElem?_drop,←List.getD_eq_getElem?_getD]
 ·rw[List.drop_eq_nil_of_le hk];exact SlO.nil
section ss
variable {w0:World} {h0:Hp} {w:World} {h:Hp} {B:List Bx} {R:List Rw} {F:List (Hp→Prop)}
end ss
section laws
variable {M:Ms} {P:Program} {n:Nat} {N R:Po} {X:Nat→Po} {ops:Array Oper} {k k0:Nat} {hr:Hp} {AL:List Al} {L:Array Bool} {Γ:bI} {w:World} {h:Hp} {w0:World} {h0:Hp} {B:List Bx} {Rs:List Rw} {F:List (Hp→Prop)}
end laws
theorem oO (x y:Int):(if y>x then y else x)=max x y:=by omega
theorem rH (x y:Int):(if y<x then y else x)=min x y:=by omega
section z
variable {bs:List Nat} {P:Program} {n:Nat} {N R:Po} {X:Nat→Po} {ops:Array Oper} {k0:Nat} {hr:Hp} {AL:List Al} {L:Array Bool} {Γ:bI} {w wr:World} {h:Hp} {w0:World} {h0:Hp} {B:List Bx} {Rs:List Rw} {F F1:List (Hp→Prop)}
abbrev Mz (hr:Hp)(bs:List Nat):Ms:=⟨[],some (hr.size,bs)⟩
theorem tw {id:Nat}{d:Bool}(k0:Nat)(AL:List Al)(bs:List Nat)(hm:P.follows .mixedOrders=true)(s:SS w0 h0 w h B Rs F)(oks:∀ x∈AL,AlOk P ops k0 x)(H:EG (Mz h bs) P n N R X ops k0 h AL (Array.replicate ops.size false) Γ w h)(hord:i0 ops=true:=by kernel_rfl):CG P n N R X (.region id ops d) Γ w :=
 CG.region (Mz h bs) k0 AL hm hord s.g oks (fun _ hb=>by cases hb) H
theorem B0 (sr:SS w0 h0 wr hr B Rs F1)(s:SS w0 h0 w h B Rs F){w':World}(hx:∀ b,b<hr.size→b ∉ bs→b ∉ ([]:List Nat)→w'.heap[b]?=w.heap[b]?):∀ x∈B,x.b ∉ bs→Own w' x.b x.t x.vs:=fun x hm hb =>
 (hx x.b (aN (sr.st.jk x hm)) hb List.not_mem_nil).trans (s.st.own x hm)
theorem ph (i t:Nat)(ps:List (Nat × Nat × Nat))(v:Value)(sr:SS w0 h0 wr hr B Rs F1)(s:SS w0 h0 w h B Rs F)(H:EG (Mz hr bs) P n N R X ops k0 hr AL (L.setIfInBounds i true) ((t,v)::Γ) w h)(hM:∀ p∈ps,(aw B p.1).b ∉ bs:=by intro _ _;exact List.not_mem_nil)(hc:cE n ops k0 AL L Γ i t=true:=by kernel_rfl)(hp:bF B ps=true:=by kernel_rfl)(he:bE P (execOp (ev Γ) (am ops i)) (bT B ps)=some (.value v,bA B ps):=by kernel_rfl):EG (Mz hr bs) P n N R X ops k0 hr AL L Γ w h :=
 Rg.loadZ i t v rfl (ij hc).1 (ij hc).2 (fun w' hx=>bu _ _ _ _ he (dL hM (B0 sr s hx) ps (fun _ h=>h) hp)) H
theorem xS {x y:Al}(sr:SS w0 h0 wr hr B Rs F)(s:SS w0 h0 w h B Rs F)(t:TypeId)(vs:List Value)(t2:TypeId)(vs2:List Value)(H:∀ w' h' b c,hr.size≤b→hr.size≤c→SS w0 h0 w' h' (⟨b,t,vs⟩::⟨c,t2,vs2⟩::B) Rs F→AG (Mz hr bs) P n N R X ops k0 ((L.setIfInBounds y.i true).setIfInBounds x.i true) ((x.t,.pointer (some ⟨b,0,none⟩))::(y.t,.pointer (some ⟨c,0,none⟩))::Γ) w')(hc:(dX ops [x,y] L && decide (x.t<n) && decide (y.t<n) && (x.t != y.t) && (x.i != y.i))=true:=by kernel_rfl)(ho:x.o=.cells vs.toArray t (0,0):=by kernel_rfl)(ho2:y.o=.cells vs2.toArray t2 (0,0):=by kernel_rfl):EG (Mz hr bs) P n N R X ops k0 hr [x,y] L Γ w h :=
 Rg.fin2 hc (fun w' h' b c u k k2 hne=>H w' h' b c k.2.2 k2.2.2 ⟨s.g0,St.new2 sr.st (s.st.step u) k k2 hne t vs ho t2 vs2 ho2,fun r hr'=>(((s.step u).ro r hr').new c (fun d hd e=>by
  have h1:=(sr.ro r hr').lt hd;have h2:hr.size≤c:=k2.2.2
  omega)).new b (fun d hd e=>by
  have h1:=(sr.ro r hr').lt hd;have h2:hr.size≤b:=k.2.2
  omega),s.ap,s.mo,(s.step u).f⟩)
theorem fI {b:Nat}(hb:hr.size≤b):∀ K bs',(Mz hr bs).z=some (K,bs')→K≤b∨b∈bs':=fun K bs' e=>by
 injection e with e
 injection e with e1 e2
 subst e1;exact .inl hb
theorem cW {b:Nat}(hb:b∈bs):∀ K bs',(Mz hr bs).z=some (K,bs')→K≤b∨b∈bs':=fun K bs' e=>by
 injection e with e
 injection e with e1 e2
 subst e2;exact .inr hb
end z
section row
variable {P:Program} {n:Nat} {N R:Po} {X:Nat→Po} {ops:Array Oper} {k:Nat} {Γ:bI} {w:World} {h:Hp} {w0:World} {h0:Hp} {B:List Bx} {Rs:List Rw} {F:List (Hp→Prop)}
end row
section rb
variable {w0:World} {h0:Hp} {w:World} {h:Hp} {B:List Bx} {R:List Rw} {F:List (Hp→Prop)}
end rb
section app
variable {M:Ms} {P:Program} {n:Nat} {N R:Po} {X:Nat→Po} {ops:Array Oper} {k k0:Nat} {hr:Hp} {AL:List Al} {L:Array Bool} {Γ:bI} {w:World} {h:Hp} {w0:World} {h0:Hp} {B:List Bx} {Rs:List Rw} {F:List (Hp→Prop)}
end app
section fin
variable {M:Ms} {P:Program} {n:Nat} {N R:Po} {X:Nat→Po} {ops:Array Oper} {k0:Nat} {hr:Hp} {AL:List Al} {L:Array Bool} {Γ:bI} {w:World} {h:Hp} {w0:World} {h0:Hp} {B:List Bx} {Rs:List Rw} {F:List (Hp→Prop)}
end fin
def ew (x:Nat):List Value:=[.int .u32 (x:Nat)]
abbrev S3 (A:Option Addr)(l:List Nat):Hp→Prop:=fun h_=>SlO 1 ew 0 h_ A l
theorem kj:∀ f n:Nat,l7 f n=mB 4294967296 f n
  | 0,_=>rfl
  | f+1,n=>by
    unfold l7 mB
    split
    · rfl
    · rw[kj f]
theorem uL (n:Nat):lim n=f7 4294967296 n:=kj n n
def Ld (l:List Nat):Prop:=Dg 4294967296 l
theorem Ld.lim (n:Nat):Ld (lim n):=fun x hx=>BE n x hx
theorem Ld.get {l:List Nat}(h:Ld l)(k:Nat):l.getD k 0<4294967296:=Dg.getD h kD k
theorem Ld.set {l:List Nat}(h:Ld l)(k:Nat){x:Nat}(hx:x<4294967296):Ld (l.set k x):=Dg.set h k hx
theorem Ld.rep (n:Nat):Ld (List.replicate n 0):=Dg.rep kD
theorem ll (n:Nat):ak 4294967296 (lim n)=n:=by rw[←im];exact jE n
theorem te {l:List Nat}(h:Ld l){n:Nat}(e:ak 4294967296 l=n):lim n=l.take (tl l l.length):=by
 rw[←e,←im];exact qn h
theorem ne {l:List Nat}(h:Ld l){n:Nat}(e:ak 4294967296 l=n):(lim n).length=tl l l.length:=by
 rw[te h e,List.length_take];have:=fZ l l.length;omega
theorem jw (n:Nat):n<4294967296^(lim n).length:=by rw[uL];exact gh kD n
theorem eY {a b:Nat}(h:a≤b):(lim a).length≤(lim b).length:=eJ (Nat.lt_of_le_of_lt h (jw b))
theorem mt {a b k:Nat}(h:a≤b)(hb:(lim b).length≤k):(lim a).length≤k:=Nat.le_trans (eY h) hb
theorem nW (n:Nat):(lim n).length≤2*(wds n).length:=by
 refine eJ ?_;have:=cu n
 rwa [show (18446744073709551616:Nat)=4294967296^2 by rfl,←Nat.pow_mul] at this
theorem ef {a b:Nat}(h:(lim a).length<(lim b).length):a<b:=by
 rcases Nat.lt_or_ge a b with hl|hl
 ·exact hl
 ·have:=eY hl;omega
theorem vn {a b:Nat}(h:lim a=lim b):a=b:=by rw[←jE a,←jE b,h]
theorem eK {a b k:Nat}(hlen:(lim a).length=(lim b).length)(hk:k<(lim a).length)(hd:(lim a).drop (k+1)=(lim b).drop (k+1))(hlt:(lim a).getD k 0<(lim b).getD k 0):a<b:=by
 have ea:=bJ 4294967296 (l:=lim a) (k:=k+1) oM;have eb:=bJ 4294967296 (l:=lim b) (k:=k+1) oM;rw[ll] at ea eb
 rw[hd] at ea
 have ta:=aJ 4294967296 (l:=lim a) (k:=k) hk;have tb:=aJ 4294967296 (l:=lim b) (k:=k) oM;have la:=bM (Dg.take (Ld.lim a) k);rw[List.length_take,Nat.min_eq_left oM] at la
 have hm:4294967296^k*(lim a).getD k 0+4294967296^k≤4294967296^k*(lim b).getD k 0:=by
  rw[←Nat.mul_succ];exact Nat.mul_le_mul_left _ hlt
 omega
def RN (h:Hp)(v:Value)(n:Nat):Prop:=EC 1 ew 0 h v (lim n)
def RI (h:Hp)(v:Value)(z:Int):Prop:=∃ A c,v=.agg #[.bool (aD z),.slice A (lim (ab z)).length c]∧(lim (ab z)).length≤c∧SlO 1 ew 0 h A (lim (ab z))
def RP (h:Hp)(v:Value)(z:Int)(n:Nat):Prop:=∃ A c B d,v=.agg #[.bool (aD z),.slice A (lim (ab z)).length c,.slice B (lim n).length d]∧(lim (ab z)).length≤c∧(lim n).length≤d∧SlO 1 ew 0 h A (lim (ab z))∧SlO 1 ew 0 h B (lim n)
def RQ (h:Hp)(v:Value)(q:Rat):Prop:=RP h v q.num q.den
theorem RN.trim {h:Hp}{A:Option Addr}{l:List Nat}{n m cap:Nat}(hd:Ld l)(e:ak 4294967296 l=n)(hm:l.length=m)(hc:m≤cap)(s:SlO 1 ew 0 h A l):RN h (.slice A (tl l m) cap) n:=by
 subst hm;have e1:=ne hd e;have:=fZ l l.length;refine ⟨A,cap,by rw[e1],by omega,?_⟩;rw[te hd e];exact s.take _
theorem m7 {h:Hp}{p b:Bool}{n cap:Nat}{A:Option Addr}(hb:b=(p && decide (0<n)))(hc:(lim n).length≤cap)(hA:SlO 1 ew 0 h A (lim n)):RI h (.agg #[.bool b,.slice A (lim n).length cap]) (cb p n):=by
 subst hb;refine ⟨A,cap,?_,?_,?_⟩
 ·rw[gW,dt]
 ·rw[dt];exact hc
 ·rw[dt];exact hA
theorem uE {l:List Nat}{m:Nat}(h:0<m)(h0:l.getD (m-1) 0=0):tl l m=tl l (m-1):=by
 obtain ⟨k,rfl⟩:∃ k,m=k+1:=⟨m-1,by omega⟩;rw[iS,if_pos (by simpa using h0)];rfl
theorem xY {r x:Nat}(hx:x<4294967296):r*4294967296 ||| x=r*4294967296+x:=by
 have:=Nat.two_pow_add_eq_or_of_lt (i:=32) (b:=x) oM r;rw[Nat.mul_comm];exact this.symm
theorem pH {r x d:Nat}(hd0:0<d)(hr:r<d)(hx:x<4294967296)(hd:d<4294967296) :
  (r*4294967296+x)/d%4294967296=(r*4294967296+x)/d∧r*4294967296+x=d*((r*4294967296+x)/d)+(r*4294967296+x)%d∧(r*4294967296+x)%d<d:=by
 refine ⟨Nat.mod_eq_of_lt ?_,(Nat.div_add_mod _ _).symm,Nat.mod_lt _ hd0⟩;rw[Nat.div_lt_iff_lt_mul hd0];have h1:(r+1)*4294967296≤d*4294967296:=Nat.mul_le_mul_right _ hr;rw[Nat.mul_comm]
 omega
theorem qB {b:Nat}{l z:List Nat}{m d r r' q X:Nat}(hm:0<m)(hl:m-1<z.length)(h0:z.getD (m-1) 0=0)(inv:X=d*ak b z+(b^m*r+ak b (l.take m)))(e:r*b+l.getD (m-1) 0=d*q+r') :
  X=d*ak b (z.set (m-1) q)+(b^(m-1)*r'+ak b (l.take (m-1))):=by
 obtain ⟨k,rfl⟩:∃ k,m=k+1:=⟨m-1,by omega⟩;rw[Nat.add_sub_cancel] at *
 have h1:=ci b q hl;rw[h0,Nat.mul_zero,Nat.add_zero] at h1
 have e2:=congrArg (b^k * ·) e
 simp only[Nat.mul_add] at e2
 rw[inv,h1,aR,Nat.pow_succ,Nat.mul_add];have e3:b^k*(r*b)=b^k*b*r:=by rw[Nat.mul_comm r b,Nat.mul_assoc]
 have e4:b^k*(d*q)=d*(b^k*q):=by ac_rfl
 rw[e3,e4] at e2
 omega
section bld
variable {P:Program} {n:Nat} {N R:Po} {X:Nat→Po} {ops:Array Oper} {k:Nat} {Γ:bI} {w0:World} {h0:Hp} {B:List Bx} {Rs:List Rw} {F:List (Hp→Prop)} {wB:World} {hB:Hp}
theorem SS.liftJ (s:SS w0 h0 wB hB B Rs F){w:World}(x:Ext wB w):∃ h',SS w0 h0 w h' B Rs F∧∀ b,wB.heap.size≤b→b<w.heap.size→h'[b]?=some junk:=by
 have hs:=x.size;have e0:=s.g.size;refine ⟨hB++Array.replicate (w.heap.size-wB.heap.size) junk,s.step ⟨x,⟨by simp,fun b hb=>Array.getElem?_append_left hb⟩,⟨by simp;omega,fun b=>?_⟩⟩,fun b h1 h2=>?_⟩
 ·rcases Nat.lt_or_ge b hB.size with hb|hb
  ·rw[Array.getElem?_append_left hb]
   have e:=Below.block x b oM
   rcases s.g.blk b with h1|h1
   ·exact .inl (h1.trans e.symm)
   ·exact .inr h1
  ·rw[Array.getElem?_append_right hb,Array.getElem?_replicate]
   by_cases hl:b<w.heap.size
   ·right;rw[if_pos oM]
   ·left;rw[if_neg oM,Array.getElem?_eq_none oM]
 ·rw[Array.getElem?_append_right oM,Array.getElem?_replicate,if_pos oM]
theorem EM (t:Nat)(ty:TypeId)(vs:List Value){w:World}{h:Hp}(s:SS w0 h0 w h B Rs F)(H:∀ w',Ext w w'→w.heap.size≤w'.heap.size→w'.heap[w.heap.size]?=some (.cells vs.toArray ty (0,0))→LG P n N R X ops (k+1) ((t,.pointer (some ⟨w.heap.size,0,none⟩))::Γ) w')(hc:cL ops Γ k t n=true:=by kernel_rfl)
  (hr:(execOp (ev Γ) (am ops k)).run P w=.ok (.value (.pointer (some ⟨w.heap.size,0,none⟩))) (w.alloc (.cells vs.toArray ty (0,0))):=by kernel_rfl):LG P n N R X ops k Γ w :=
 LG.val t _ (w.alloc (.cells vs.toArray ty (0,0))) (bD hc).1 (bD hc).2 hr (H _ ((Ext.refl _).alloc _) (by rw[cF];simp) (by rw[cF];simp))
theorem DE (t:Nat){f:FuncId}{args:Array Value}{V:Value}{Q:World→Prop}{w:World}(s:SS w0 h0 wB hB B Rs F)(x:Ext wB w)(c:Calls P f args w fun e w'=>e=.returned V∧(Q w'∧Below wB.heap.size w w'))(H:∀ w' h',SS w0 h0 w' h' B Rs F→Ext wB w'→Q w'→LG P n N R X ops (k+1) ((t,V)::Γ) w')(hc:cL ops Γ k t n=true:=by kernel_rfl)
  (hr:(execOp (ev Γ) (am ops k)).run P w=.ok (.enter f args) w:=by kernel_rfl):LG P n N R X ops k Γ w :=
 LG.call t f args (bD hc).1 (bD hc).2 hr (c.mono fun e w' ⟨he,q,b⟩=>by
  have x':Ext wB w':=Below.trans x b;obtain ⟨h',s',_⟩:=s.liftJ x';exact ⟨V,he,H w' h' s' x' q⟩)
def vL (a b:Nat):List Nat:=(List.range b).filter (fun c=>decide (a≤c))
theorem jb {a b c:Nat}:c∈vL a b↔a≤c∧c<b:=by
 unfold vL;rw[List.mem_filter,List.mem_range];simp;omega
theorem A.takeK {M:Ms}{Q:Exit→Act→World→Prop}{k0:Nat}{L:Array Bool}{a:Act}{w:World}{i:Nat}{o:Oper}{v:Value}{S:World→Prop}
  (hi:ops[i]?=some o)(hk:i<k0)(hsel:Region.noSelect ops=true)(hf:Region.free .any ops L i=true)(hr:i∈Region.ready .any ops L)(hQ:∀ c a w,¬Q (.panic c) a w)
  (hcl:∀ w w',S w→Mo M.l w w'→S w')(hS:S w)(hy:YieldsIf P ops S o v a)
  (htail:(∀ w,S w)∨(∀ w w',S w→Tl M w w'→S w')∨∀ j oj,ops[j]?=some oj→k0≤j→j≠i→∃ e∈oj.after,Region.binds .any e=true∧e.on=i)
  (H:A M P ops Q k0 (L.setIfInBounds i true) (a.put o.dst v) w):A M P ops Q k0 L a w:=by
 unfold A at *
 rw[dk hr]
 exact jI hi (Region.noSelect_spec hsel) (fun c a w hq=>absurd hq (hQ _ _ _)) hcl _ _ _ _
  (fun j oj hj hji hun=>Region.free_spec hi hf j oj hj hji hun) htail hr hy hS H hk
variable {M:Ms} {k0:Nat} {L:Array Bool} {w:World}
theorem aV (i t:Nat)(v:Value)(H:AG M P n N R X ops k0 (L.setIfInBounds i true) ((t,v)::Γ) w)(hc:cE n ops k0 [] L Γ i t=true:=by kernel_rfl)(hv:∀ w,(execOp (ev Γ) (am ops i)).run P w=.ok (.value v) w:=by intro _;kernel_rfl):AG M P n N R X ops k0 L Γ w:=by
 obtain ⟨hc1,hw⟩:=ij hc;rw[Bool.and_eq_true] at hc1
 have c:=cp hc1.1;intro a ka;have e1:=ka.exec (Region.noSelect_spec c.sel i _ · · c.get) hc1.2;refine A.takeK (v:=v) (S:=fun _=>True) c.get c.lt c.sel c.free c.ready (fun _ _ _ hq=>hq) (fun _ _ _ _=>trivial) trivial (.inl ⟨ka.want hw,fun w _=>by rw[e1];exact hv w⟩) (.inl fun _=>trivial) ?_;rw[c.dst];exact H _ (ka.put c.tn v)
theorem aL (i t:Nat)(v:Value)(hr:∀ w',Mo M.l w w'→(execOp (ev Γ) (am ops i)).run P w'=.ok (.value v) w')(H:AG M P n N R X ops k0 (L.setIfInBounds i true) ((t,v)::Γ) w)(hc:vK n ops k0 [] L Γ i t=true:=by kernel_rfl):AG M P n N R X ops k0 L Γ w:=by
 obtain ⟨hc1,hw⟩:=gU hc;rw[Bool.and_eq_true,Bool.and_eq_true] at hc1
 obtain ⟨⟨hc2,hkn⟩,htl⟩:=hc1;have c:=cp hc2;intro a ka;have e1:=ka.exec (Region.noSelect_spec c.sel i _ · · c.get) hkn;refine A.takeK (v:=v) (S:=fun w'=>Mo M.l w w') c.get c.lt c.sel c.free c.ready (fun _ _ _ hq=>hq) (fun _ _ h1 h2=>h1.trans h2) (Mo.refl _ _) (.inl ⟨ka.want hw,fun w' hx=>by rw[e1];exact hr w' hx⟩) (.inr (.inr (ie htl))) ?_;rw[c.dst];exact H _ (ka.put c.tn v)
theorem aH (i t:Nat)(v:Value){h:Hp}{b o:Nat}{cs:List Value}(s:SS w0 h0 w h B Rs F)(sg:Seg h b o cs)(H:AG M P n N R X ops k0 (L.setIfInBounds i true) ((t,v)::Γ) w)(hM:∀ b∈M.l,h[b]?=some junk)(hc:vK n ops k0 [] L Γ i t=true:=by kernel_rfl)(he:bE P (execOp (ev Γ) (am ops i)) cs=some (.value v,jy b o cs.length):=by kernel_rfl):AG M P n N R X ops k0 L Γ w :=
 aL i t v (fun _ hx=>Seg.runM sg s.g hM hx he) H hc
def Ca (ops:Array Oper)(k0:Nat)(L:Array Bool)(i:Nat):Bool:=decide (i<ops.size) && decide (i<k0) && Region.noSelect ops && (Region.ready .any ops L == [i])
theorem aC (i t:Nat){f:FuncId}{args:Array Value}(c:Calls P f args w fun e w'=>∃ v,e=.returned v∧Mo M.l w w'∧AG M P n N R X ops k0 (L.setIfInBounds i true) ((t,v)::Γ) w')(hc:(Ca ops k0 L i && aW Γ (am ops i) && ((am ops i).dst == some t) && decide (t<n))=true:=by kernel_rfl)(hw:aZ ops Γ (am ops i)=some true:=by kernel_rfl)
  (hr:(execOp (ev Γ) (am ops i)).run P w=.ok (.enter f args) w:=by kernel_rfl):AG M P n N R X ops k0 L Γ w:=by
 simp only[Bool.and_eq_true,decide_eq_true_eq,beq_iff_eq] at hc
 obtain ⟨⟨⟨h1,h2⟩,h3⟩,h4⟩:=hc
 unfold Ca at h1
 simp only[Bool.and_eq_true,decide_eq_true_eq,beq_iff_eq] at h1
 have hg:=bv (ops:=ops) h1.1.1.1;intro a ka;refine A.intro (fun h0=>by rw[h1.2] at h0;cases h0) (fun j hj=>?_);rw[h1.2,List.mem_singleton] at hj
 subst hj;refine OpR.wpOp (R:=fun v w'=>Mo M.l w w'∧AG M P n N R X ops k0 (L.setIfInBounds j true) ((t,v)::Γ) w') hg ⟨ka.want hw,.inr (.inr ⟨f,args,?_,c⟩)⟩ (fun v w' hq=>⟨Rl.mo h1.1.1.2 hq.1,?_⟩)
 ·rw[ka.exec (Region.noSelect_spec h1.1.2 j _ · · hg) h2];exact hr
 ·rw[h3];exact hq.2 _ (ka.put h4 v)
theorem rL {id:Nat}(M:Ms)(k0:Nat)(hm:P.follows .mixedOrders=true)(H:AG M P n N R X ops k0 (Array.replicate ops.size false) Γ w.drew):CG P n N R X (.region id ops true) Γ w:=by
 intro a ka;refine wp_region_any hm ?_;have h1:=H a ka
 unfold A at h1
 rw[fy] at h1
 exact je _ _ _ _ _ _ _ _ _ h1
theorem SS.drew {h:Hp}(s:SS w0 h0 w h B Rs F):SS w0 h0 w.drew h B Rs F:=s.step (Up.drew (Up.refl s.g))
theorem rX {K:Nat}{w w':World}(x:Below K w w'):Mo (vL K w.heap.size) w w':=⟨x.os,x.tape,x.output,x.size,fun c hc hn=>by
 rcases Nat.lt_or_ge c K with h|h
 ·exact Below.block x c h
 ·exact absurd (jb.2 ⟨h,hc⟩) hn⟩
theorem nq {K:Nat}{T e:TypeId}{b:Nat}{bs:List Value}{w w1:World}(h:Lib.IsBuilder T e K b bs w)(x:Ext w w1):Lib.IsBuilder T e K b bs w1:=by
 have key:∀ p,Lib.BuilderAt T e K b p bs w→Lib.BuilderAt T e K b p bs w1:=by
  rintro p ⟨h1,v,h2,h3,h4⟩
  have hlt:b<w.heap.size:=by
   rcases Nat.lt_or_ge b w.heap.size with h'|h'
   ·exact h'
   ·rw[Array.getElem?_eq_none h'] at h2;cases h2
  exact ⟨h1,v,(Below.block x b hlt).trans h2,ek h3 (fun c hc=>Below.block x c (jF h3 hc)),h4⟩
 rcases h with h|h
 ·exact .inl (key _ h)
 ·exact .inr (key _ h)
theorem aX (i t:Nat)(A:Option Addr)(len cap sz:Nat)(x:Int)(j:Nat)(hA:A=some ⟨aB A,aO A,none⟩)(H:AG M P n N R X ops k0 (L.setIfInBounds i true) ((t,.pointer (some ⟨aB A,aO A+j*sz,none⟩))::Γ) w)(hc:cE n ops k0 [] L Γ i t=true:=by kernel_rfl)(he:tM P (ev Γ) (am ops i)=some (.slice A len cap,.int .i64 x,sz):=by kernel_rfl)(hk:x=j:=by omega)(hlt:j<len:=by omega):AG M P n N R X ops k0 L Γ w :=
 aV i t _ H hc (fun w=>eL he hA hk hlt w)
theorem nK {P:List UInt8}{x m:Nat}(hm:m<8):Lib.byteCells (P++(b8 x).take m)++[.int .u8 ((x/2^(8*m)%256:Nat):Int)]=Lib.byteCells (P++(b8 x).take (m+1)):=by
 have e:(b8 x).take (m+1)=(b8 x).take m++[UInt8.ofNat (x/256^m)]:=by
  rw[List.take_add_one]
  congr 1
  unfold b8
  rw[List.getElem?_map,List.getElem?_range hm];rfl
 rw[e,←List.append_assoc]
 unfold Lib.byteCells
 rw[List.map_append (l₁:=P++_)]
 congr 1
 show _=[Value.int .u8 ((x/256^m%256:Nat):Int)]
 rw[Nat.pow_mul]
theorem pj {l:List Nat}{k:Nat}(hk:k<l.length):((l.take k).flatMap b8)++(b8 (l.getD k 0)).take 8=(l.take (k+1)).flatMap b8:=by
 have e:(b8 (l.getD k 0)).take 8=b8 (l.getD k 0):=List.take_of_length_le (by rw[ip];omega);rw[fh hk,List.flatMap_append,e];simp
theorem pi {l:List Nat}{k m x:Nat}(hk:k≤l.length)(hm:m≤8)(hl:l.length≤1099511627776):(Lib.byteCells ((l.take k).flatMap b8++(b8 x).take m)).length+1≤140737488355328:=by
 rw[Lib.byteCells_length,List.length_append,kc,List.length_take,List.length_take,ip];omega
theorem vo {l:List Nat}(h:tl l l.length=0):Value.agg #[.int .u64 0,.string ⟨#[]⟩]=nv (aA l):=by
 have e:=gH 18446744073709551616 l l.length (Nat.le_refl _);rw[h,List.take_length] at e
 have:aA l=0:=e.symm;rw[this];rfl
theorem xo {l:List Nat}(hd:Wd l)(h:tl l l.length=1):Value.agg #[.int .u64 (l.getD 0 0:Nat),.string ⟨#[]⟩]=nv (aA l):=by
 have e:=gH 18446744073709551616 l l.length (Nat.le_refl _);have hle:=fZ l l.length;rw[h,List.take_length,aR] at e
 have e2:aA l=l.getD 0 0:=by show ak _ l=_;rw[←e];simp[ak]
 rw[e2];have:=hd.get 0
 unfold nv
 rw[gM this,jn this]
theorem uv {l:List Nat}(hd:Wd l)(h:0<tl l l.length):Value.agg #[.int .u64 (l.getD 0 0:Nat),.string ⟨(((l.drop 1).take (tl l l.length-1)).flatMap b8).toArray⟩]=nv (aA l):=by
 have e:=kU hd;have e1:((l.drop 1).take (tl l l.length-1))=(wds (aA l)).drop 1:=by rw[e,List.drop_take]
 unfold nv
 rw[Dp (n:=aA l) (by rw[e1]),mS,e,gi h]
end bld
section
variable {P:Program} {Γ:bI} {o:Oper}
theorem ck {f:FuncId}{args:Array Value}{v:Value}{w:World}(h:(execOp (ev Γ) o).run P w=(callFunc f args).run P w)(k:(callFunc f args).run P w=.ok (.value v) w):(execOp (ev Γ) o).run P w=.ok (.value v) w:=h.trans k
end
theorem cf (x y c:Nat)(hx:x<18446744073709551616)(hy:y<18446744073709551616)(hc:c≤1):∃ s c':Nat,s+18446744073709551616*c'=x+y+c∧s<18446744073709551616∧c'≤1∧∀ w,(callFunc 152 #[.int .u64 x,.int .u64 y,.int .u64 c]).run Tryz.prog w=.ok (.value (.tuple #[.int .u64 s,.int .u64 c'])) w:=by
 refine ⟨(x+y+c)%18446744073709551616,(x+y+c)/18446744073709551616,by omega,by omega,by omega,fun w=>?_⟩;rw[run_callFunc_extern Tryz.func152 kR kR kR (e:=add64Entry) kR,run_add64 x y c oM oM oM oM]
 simp only[Result.andThen]
 congr 5<;>omega
theorem f5 (x y b:Nat)(hx:x<18446744073709551616)(hy:y<18446744073709551616)(hb:b≤1):∃ s b':Nat,s+y+b=x+18446744073709551616*b'∧s<18446744073709551616∧b'≤1∧∀ w,(callFunc 153 #[.int .u64 x,.int .u64 y,.int .u64 b]).run Tryz.prog w=.ok (.value (.tuple #[.int .u64 s,.int .u64 b'])) w:=by
 refine ⟨(x+18446744073709551616-y-b)%18446744073709551616,if x<y+b then 1 else 0,by split<;>omega,by omega,by split<;>omega,fun w=>?_⟩;rw[run_callFunc_extern Tryz.func153 kR kR kR (e:=sub64Entry) kR,run_sub64 x y b hb]
 rfl
theorem Ret.of_same {f:FuncId}{args:Array Value}{V:Value}{P:Program}{w:World}{h:Hp}(g:G w h)(c:Calls P f args w fun e w'=>e=.returned V∧w'=w):Calls P f args w (Ret w h fun v _=>v=V) :=
 c.mono fun e w' ⟨he,hw⟩=>by subst hw;exact ⟨V,h,he,Up.refl g,rfl⟩
theorem ju (x y:Nat)(hx:x<18446744073709551616)(hy:y<18446744073709551616)(w:World)(h:Hp)(g:G w h):CR 125 #[uV x,uV y] w h (fun v _=>∃ hi lo:Nat,v=.tuple #[uV hi,uV lo]∧lo+18446744073709551616*hi=x*y∧lo<18446744073709551616∧hi<18446744073709551616∧hi≤18446744073709551614):=by
 refine (Ret.of_same g (Tryz.bits_Mul64 x y hx hy w)).mono ?_;rintro e w' ⟨v,h',he,u,rfl⟩;have h1:x*y≤18446744073709551615*18446744073709551615:=Nat.mul_le_mul oM oM;exact ⟨_,h',he,u,x*y/18446744073709551616,x*y%18446744073709551616,rfl,by omega,by omega,by omega,by omega⟩
theorem jZ {n:Nat}(h:n<18446744073709551616):Lib.bitLen n=nb n:=by
 rcases Nat.eq_zero_or_pos n with h0|h0
 ·subst h0;rfl
 ·obtain ⟨s1,s2,s3⟩:=bX h0
  have hle:nb n≤64:=ke (k:=64) h;have:=Lib.bitLen_shift (nb n-1) n s1 h
  have h1:n/2^(nb n-1)=1:=by
   have:n<2^(nb n-1)*2:=by rw[←Nat.pow_succ];rwa [show (nb n-1).succ=nb n by omega]
   refine Nat.div_eq_of_lt_le oM oM
  rw[h1] at this
  have e1:Lib.bitLen 1=1:=by decide
  omega
theorem sh (x:Nat)(hx:x<18446744073709551616)(w:World)(h:Hp)(g:G w h):CV 129 #[uV x] w h (nV (nb x)):=by
 have:=Ret.of_same g (Tryz.bits_Len64 x w oM oM);rw[Int.toNat_natCast,jZ hx] at this
 exact this
theorem wL (x:Nat)(hx:x<18446744073709551616)(w:World)(h:Hp)(g:G w h):CV 164 #[uV x] w h (nV (64-nb x)):=by
 have:=Ret.of_same g (Tryz.bits_LeadingZeros64 x w oM oM);have hle:nb x≤64:=ke (k:=64) hx;rw[Int.toNat_natCast,jZ hx,show (64:Int)-(nb x:Nat)=((64-nb x:Nat):Int) by omega] at this
 exact this
theorem fF {a b:Nat}(ha:a<18446744073709551616)(hb:b<18446744073709551616):a*b≤340282366920938463426481119284349108225:=by
 have h1:a≤18446744073709551615:=by omega
 have h2:b≤18446744073709551615:=by omega
 exact Nat.mul_le_mul h1 h2
theorem qf (A:Option Addr)(c:Nat)(l:List Nat)(m:Nat)(hm:l.length=m)(hl:l.length≤1099511627776)(hc:l.length≤c)(w:World)(h:Hp)(g:G w h)(hA:S3 A l h):CV 112 #[.slice A m c] w h (.slice A (tl l m) c):=by
 have hs:=((sS g).aS hA);refine go Tryz.func112 [(0,qS A m c)] rfl (aa hs [.v 2 (sZ)] (aG (lL hs [.m 4 0,.v 5 (nV m),.m 3 5] (af (kZ ?_)))));refine bQ _ (CG.loop (fun μ_ Γ w_=>∃ (n:Nat) (h_:Hp),μ_=n∧Γ=[(0,qS A m c),(2,sZ),(3,nV n)]∧SS w h w_ h_ [] [] [S3 A l]∧n≤m∧tl l m=tl l n) _ ⟨m,h,rfl,rfl,hs.to _ _,nR _,rfl⟩ ?_);rintro _ _ w1 ⟨n,h2,hm3,rfl,hs,hn,ht⟩;refine cQ (aa hs [.m 6 3] ?_);cases hb4:(decide ((0:Int)<(n:Int)))
 ·
  have phb4:=oF hb4;refine lB 7 hb4 (lL hs [.m 8 7] (lG 9 ?_));refine lG 10 (lG 11 (lG 12 (lG 13 (lG 14 (lL hs [.v 15 qF] (ah (CG.exit ?_)))))))
  show CG _ _ _ _ _ _ _ _
  refine aa hs [.m 18 0,.m 19 3] (lT 20 A m c 1 (n:Nat) n ?_);exact lL hs [.m 2 20] (ac hs [] (qS A n c) (by rw[ht,jY oM]))
 have phb4:=oT hb4;refine lB 7 hb4 (lL hs [.m 8 7,.m 9 0,.m 10 3] (bH 11 ((n:Nat)-1) (n-1) ?_));refine lX 12 A m c 1 (n-1:Nat) (n-1) ((hs.f.1).ok oM) (lH 13 (mW (l.getD (n-1) 0)) hs ((hs.f.1).el (n-1) oM) ?_);cases hb5:(((l.getD (n-1) 0:Nat):Int) == (0:Int))
 ·
  have phb5:=ai hb5;refine lB 14 hb5 (lL hs [.v 15 qF] (ah (CG.exit ?_)))
  show CG _ _ _ _ _ _ _ _
  refine aa hs [.m 18 0,.m 19 3] (lT 20 A m c 1 (n:Nat) n ?_);exact lL hs [.m 2 20] (ac hs [] (qS A n c) (by rw[ht,jY oM]))
 have phb5:=eq_of_beq hb5;refine lB 14 hb5 (lL hs [.v 15 qT] (ao (cK (kZ (kQ (lL hs [.m 16 3] (bH 17 ((n:Nat)-1) (n-1) ?_)))))));refine lL hs [.m 3 17] (lD ?_);intro a_ ka;refine ⟨_,_,?_,⟨n-1,h2,rfl,rfl,hs.to _ _,oM,(by rw[ht];exact uE oM oM)⟩,ka.to _ kR⟩
 omega
theorem pg {h:Hp}{A:Option Addr}{n cap:Nat}(hn:n<18446744073709551616)(hc:2≤cap)(s:SlO 1 ew 0 h A [n%4294967296,n/4294967296]):RN h (.slice A (tl [n%4294967296,n/4294967296] 2) cap) n :=
 RN.trim (Dg.cons oM (Dg.one oM)) (by simp only[ak];omega) rfl hc s
theorem mR (n:Nat)(hn:n<18446744073709551616)(w:World)(h:Hp)(g:G w h):CR 85 #[mV n] w h (fun v h=>RN h v n):=by
 have hs:=sS g;refine go Tryz.func85 [(0,mV n)] rfl (aa hs [.v 2 (sZ)] (aG (lL hs [.m 3 0] (lV 4 (mW (n%4294967296)) ?_ (hr:=rT ((n:Int)) kR (qy _))))));refine lL hs [.m 5 0] (lV 6 (mV (n/4294967296)) ?_ (hr:=aU (n:=Int.fdiv (n:Int) 4294967296) kR (kF _ 4294967296)));refine lV 7 (mW (n/4294967296)) ?_ (hr:=rT (((n/4294967296:Nat):Int)) kR (mY oM oM));refine lR 8 123 2 ([mW (n%4294967296),mW (n/4294967296)]) hs (fun b1 w2 h3 hs=>?_);replace hs:=hs.aS (SlO.of_flat (sz:=1) (f:=ew) (d:=0) (l:=[(n%4294967296),(n/4294967296)]) (fun _=>rfl) hs.f.1);exact ag 9 hs (qf (sB b1) 2 ([(n%4294967296),(n/4294967296)]) 2 (by first|rfl|omega|assumption) (by simp) (by simp) _ _ hs.g hs.f.1) (fun w6 h7 hs=>lL hs [.m 2 9] (ac hs [] (qS (sB b1) (tl ([(n%4294967296),(n/4294967296)]) 2) 2) (pg hn oM hs.f.1)))
theorem El (n:Nat)(A:Option Addr)(cap:Nat)(hc:(lim n).length≤cap)(w:World)(h:Hp)(g:G w h)(hA:S3 A (lim n) h):CR 88 #[.bool false,.slice A ((lim n).length) cap] w h (fun v h=>RI h v (cb false n)):=by
 have hs:=((sS g).aS hA);refine go Tryz.func88 [(0,qF),(1,qS A ((lim n).length) cap)] rfl (aE (lA 4 71 ([qF,sZ]) hs (fun b1 w2 h3 hs=>aG (lL hs [.m 5 0,.m 6 5] (lG 7 ?_)))));exact lG 8 (lG 9 (lL hs [.v 10 qF,.m 11 1,.v 12 (.agg #[qF,qS A ((lim n).length) cap])] (lP 0 0 ([qF,qS A ((lim n).length) cap]) hs (fun w4 hs=>ac hs [(0,0,2)] (.agg #[qF,qS A ((lim n).length) cap]) (m7 rfl hc hs.f.1)))))
theorem EH (n:Nat)(A:Option Addr)(cap:Nat)(hc:(lim n).length≤cap)(w:World)(h:Hp)(g:G w h)(hA:S3 A (lim n) h):CR 88 #[.bool true,.slice A ((lim n).length) cap] w h (fun v h=>RI h v (cb true n)):=by
 have hs:=((sS g).aS hA);have hp:=@eU n;refine go Tryz.func88 [(0,qT),(1,qS A ((lim n).length) cap)] rfl (aE (lA 4 71 ([qF,sZ]) hs (fun b1 w2 h3 hs=>aG (lL hs [.m 5 0,.m 6 5,.m 7 1,.v 8 (nV ((lim n).length))] ?_))));cases hb4:(decide ((0:Int)<(((lim n).length:Nat):Int)))
 ·
  have phb4:=oF hb4;exact lB 9 hb4 (lL hs [.v 10 qF,.m 11 1,.v 12 (.agg #[qF,qS A ((lim n).length) cap])] (lP 0 0 ([qF,qS A ((lim n).length) cap]) hs (fun w5 hs=>ac hs [(0,0,2)] (.agg #[qF,qS A ((lim n).length) cap]) (m7 (by simp only[Bool.true_and];first|(symm;exact decide_eq_true oM)|(symm;exact decide_eq_false oM)) hc hs.f.1))))
 have phb4:=oT hb4;exact lB 9 hb4 (lL hs [.v 10 qT,.m 11 1,.v 12 (.agg #[qT,qS A ((lim n).length) cap])] (lP 0 0 ([qT,qS A ((lim n).length) cap]) hs (fun w6 hs=>ac hs [(0,0,2)] (.agg #[qT,qS A ((lim n).length) cap]) (m7 (by simp only[Bool.true_and];first|(symm;exact decide_eq_true oM)|(symm;exact decide_eq_false oM)) hc hs.f.1))))
theorem rI (p:Bool)(n:Nat)(A:Option Addr)(cap:Nat)(hc:(lim n).length≤cap)(w:World)(h:Hp)(g:G w h)(hA:S3 A (lim n) h):CR 88 #[.bool p,.slice A (lim n).length cap] w h (fun v h=>RI h v (cb p n)):=by
 cases p
 ·exact El n A cap hc w h g hA
 ·exact EH n A cap hc w h g hA
theorem nA (z:Int)(h0:z<0)(h1 : -9223372036854775808≤z)(w:World)(h:Hp)(g:G w h):CR 49 #[iV z] w h (fun v h=>RI h v (cb true (ab z))):=by
 have hs:=sS g;have hi:ab z≤9223372036854775808:=by unfold ab;omega
 refine go Tryz.func49 [(0,iV z)] rfl (aE (lA 2 71 ([qF,sZ]) hs (fun b1 w2 h3 hs=>af (aa hs [.m 3 0] ?_))));have ⟨hb4,phb4⟩:=dT (p:=(z:Int)<(0:Int)) oM;refine lB 4 hb4 (ao (aa hs [.m 5 0] (lV 6 (mV (18446744073709551616-ab z)) ?_ (hr:=rU (z) kR (by rw[IntKind.wrap_u64];unfold ab;omega)))));refine lV 7 (mV (ab z)) ?_ (hr:=rU ((0-((18446744073709551616-ab z:Nat):Int))) kR (by rw[IntKind.wrap_u64];omega));refine lC 8 hs (mR (ab z) oM _ _ hs.g) ?_;rintro _ w9 _ hs ⟨A5,c6,rfl,hc7,hA8⟩;replace hs:=hs.aS hA8;refine lC 9 hs (rI true (ab z) A5 c6 hc7 _ _ hs.g hs.f.1) ?_;rintro _ _ _ hs ⟨za,zb,rfl,zc,zd⟩;replace hs:=hs.aS zd;exact lP 0 0 ([.bool (aD (cb true (ab z))),qS za ((lim (ab (cb true (ab z)))).length) zb]) hs (fun _ hs=>ac hs [(0,0,2)] (.agg #[.bool (aD (cb true (ab z))),qS za ((lim (ab (cb true (ab z)))).length) zb]) (⟨_,_,rfl,zc,hs.f.1⟩))
theorem nt (z:Nat)(h1:z<9223372036854775808)(w:World)(h:Hp)(g:G w h):CR 49 #[nV z] w h (fun v h=>RI h v (cb false z)):=by
 have hs:=sS g;refine go Tryz.func49 [(0,nV z)] rfl (aE (lA 2 71 ([qF,sZ]) hs (fun b1 w2 h3 hs=>af (aa hs [.m 3 0] ?_))));have ⟨hb4,phb4⟩:=dF (p:=(z:Int)<(0:Int)) oM;refine lB 4 hb4 (ah (cK (aa hs [.m 10 0] (lV 11 (mV z) ?_ (hr:=rU ((z:Int)) kR (bx oM oM))))));refine lC 12 hs (mR z oM _ _ hs.g) ?_;rintro _ w9 _ hs ⟨A5,c6,rfl,hc7,hA8⟩;replace hs:=hs.aS hA8;refine lC 13 hs (rI false z A5 c6 hc7 _ _ hs.g hs.f.1) ?_;rintro _ _ _ hs ⟨za,zb,rfl,zc,zd⟩;replace hs:=hs.aS zd;exact lP 0 0 ([.bool (aD (cb false z)),qS za ((lim (ab (cb false z))).length) zb]) hs (fun _ hs=>ac hs [(0,0,2)] (.agg #[.bool (aD (cb false z)),qS za ((lim (ab (cb false z))).length) zb]) (⟨_,_,rfl,zc,hs.f.1⟩))
theorem sn (z:Int)(h0 : -9223372036854775808≤z)(h1:z<9223372036854775808)(w:World)(h:Hp)(g:G w h):CR 49 #[iV z] w h (fun v h=>RI h v z):=by
 rcases Int.lt_or_le z 0 with hz|hz
 ·have e:cb true (ab z)=z:=by unfold cb ab;simp;omega
  have:=nA z hz h0 w h g;rw[e] at this
  exact this
 ·obtain ⟨n,rfl⟩:=Int.eq_ofNat_of_zero_le hz
  exact nt n oM w h g
theorem iU (a:Nat)(A:Option Addr)(c:Nat)(hc:(lim a).length≤c)(b:Nat)(D:Option Addr)(d:Nat)(hd:(lim b).length≤d)(hLa:(lim a).length≤4000000000)(hLb:(lim b).length≤4000000000)(w:World)(h:Hp)(g:G w h)(hA:S3 A (lim a) h)(hD:S3 D (lim b) h):CV 47 #[.slice A ((lim a).length) c,.slice D ((lim b).length) d] w h (iV (bK a b)):=by
 have hs:=(((sS g).aS hA).aS hD);refine go Tryz.func47 [(0,qS A ((lim a).length) c),(1,qS D ((lim b).length) d)] rfl (aa hs [.v 4 (iV 0)] (af (aa hs [.m 6 0,.v 7 (nV ((lim a).length)),.m 8 1,.v 9 (nV ((lim b).length))] ?_)));cases hb1:((((lim a).length:Nat):Int) != (((lim b).length:Nat):Int))
 ·
  have phb1:=az hb1;refine lB 10 hb1 (ah (cK (cQ (aa hs [.m 16 0,.v 17 (nV ((lim a).length))] (lV 18 (iV ((((lim a).length:Nat):Int)-1)) ?_ (hr:=rS ((((lim a).length:Nat)-1)) kR ((eW oM oM).trans oM)))))));refine lL hs [.m 5 18] (bn ?_);refine bQ _ (CG.loop (fun μ_ Γ w_=>∃ (m:Nat) (h_:Hp),μ_=m∧Γ=[(0,qS A ((lim a).length) c),(1,qS D ((lim b).length) d),(5,iV ((m:Int)-1))]∧SS w h w_ h_ [] [] [S3 D (lim b),S3 A (lim a)]∧m≤(lim a).length∧(lim a).length=(lim b).length∧(lim a).drop m=(lim b).drop m) _ ⟨(lim a).length,h,rfl,rfl,hs.to _ _,nR _,oM,(by rw[List.drop_eq_nil_of_le oM,List.drop_eq_nil_of_le oM])⟩ ?_);rintro _ _ w2 ⟨m,h3,hm4,rfl,hs,hm,hlen,hdr⟩;refine cQ (aa hs [.m 19 5] ?_);cases hb5:(decide ((0:Int)≤((m:Int)-1:Int)))
  ·
   have phb5:=oF hb5;refine lB 20 hb5 (ah (CG.exit ?_))
   show CG _ _ _ _ _ _ _ _
   exact aa hs [.v 4 (iV 0)] (ac hs [] (iV 0) (by rw[fK (vn (by obtain rfl:m=0:=oM;simpa using hdr))]))
  have phb5:=oT hb5;refine lB 20 hb5 (ao (cK (cQ (kZ (cQ (cR 9 [] mixed hs av ?_))))));refine eV 0 23 (qS A ((lim a).length) c) (eV 1 24 (iV ((m:Int)-1)) (eX 2 25 A ((lim a).length) c 1 ((m:Int)-1) (m-1) ((hs.f.2.1).ok oM) (eH 3 26 (mW ((lim a).getD (m-1) 0)) hs ((hs.f.2.1).el (m-1) oM) (eV 4 27 (qS D ((lim b).length) d) (eV 5 28 (iV ((m:Int)-1)) (eX 6 29 D ((lim b).length) d 1 ((m:Int)-1) (m-1) ((hs.f.1).ok oM) (eH 7 30 (mW ((lim b).getD (m-1) 0)) hs ((hs.f.1).el (m-1) oM) ?_)))))));cases hb6:((((lim a).getD (m-1) 0:Nat):Int) != (((lim b).getD (m-1) 0:Nat):Int))
  ·
   have phb6:=az hb6;refine eB 8 31 hb6 (cC hs (fun w7 h8 hs=>tN (cw (cK (kQ (lL hs [.m 21 5] (lV 22 (iV (((m-1:Nat):Int)-1)) ?_ (hr:=rS ((((m:Int)-1)-1)) kR ((eW oM oM).trans oM)))))))));refine lL hs [.m 5 22] (lD ?_);intro a_ ka;refine ⟨_,_,?_,⟨m-1,h8,rfl,rfl,hs.to _ _,oM,hlen,(dK (k:=m-1) hlen oM (by rw[show m-1+1=m by omega];exact hdr) oM)⟩,ka.to _ kR⟩
   omega
  have phb6:=aY hb6;refine eB 8 31 hb6 (cC hs (fun _ _ hs=>tN (ce (cQ (cQ (cR 9 [] mixed hs av ?_))))));refine eV 0 32 (qS A ((lim a).length) c) (eV 1 33 (iV ((m:Int)-1)) (eX 2 34 A ((lim a).length) c 1 ((m:Int)-1) (m-1) ((hs.f.2.1).ok oM) (eH 3 35 (mW ((lim a).getD (m-1) 0)) hs ((hs.f.2.1).el (m-1) oM) (eV 4 36 (qS D ((lim b).length) d) (eV 5 37 (iV ((m:Int)-1)) (eX 6 38 D ((lim b).length) d 1 ((m:Int)-1) (m-1) ((hs.f.1).ok oM) (eH 7 39 (mW ((lim b).getD (m-1) 0)) hs ((hs.f.1).el (m-1) oM) ?_)))))));cases za:(decide ((((lim a).getD (m-1) 0:Nat):Int)<(((lim b).getD (m-1) 0:Nat):Int)))
  ·
   have zc:=oF za;exact eB 8 40 za (cC hs (fun _ _ hs=>tN (cw (cK (aa hs [.v 4 (iV 1)] (ac hs [] (iV 1) (by rw[dG (by first|exact ef oM|exact eK (k:=m-1) oM oM (by rw[show m-1+1=m by omega];exact hdr.symm) oM)])))))))
  have zc:=oT za;exact eB 8 40 za (cC hs (fun _ _ hs=>tN (ce (aa hs [.v 4 (iV (-1))] (ac hs [] (iV (-1)) (by rw[cH (by first|exact ef oM|exact eK (k:=m-1) oM oM (by rw[show m-1+1=m by omega];exact hdr) oM)]))))))
 have phb1:=aY hb1;refine lB 10 hb1 (ao (cQ (aa hs [.m 11 0,.v 12 (nV ((lim a).length)),.m 13 1,.v 14 (nV ((lim b).length))] ?_)));cases zb:(decide ((((lim a).length:Nat):Int)<(((lim b).length:Nat):Int)))
 ·
  have zd:=oF zb;exact lB 15 zb (ah (cK (aa hs [.v 4 (iV 1)] (ac hs [] (iV 1) (by rw[dG (by first|exact ef oM|exact eK (k:=m-1) oM oM (by rw[show m-1+1=m by omega];exact hdr.symm) oM)])))))
 have zd:=oT zb;exact lB 15 zb (ao (aa hs [.v 4 (iV (-1))] (ac hs [] (iV (-1)) (by rw[cH (by first|exact ef oM|exact eK (k:=m-1) oM oM (by rw[show m-1+1=m by omega];exact hdr) oM)]))))
theorem re {a b q r:Nat}(h:a=b*q+r)(hr:r<b):q=a/b∧r=a%b:=by
 subst h;rw[Nat.mul_add_div oM,Nat.div_eq_of_lt hr,Nat.mul_add_mod,Nat.mod_eq_of_lt hr];simp
theorem D7 (a:Nat)(A:Option Addr)(c:Nat)(hc:(lim a).length≤c)(hLa:(lim a).length≤4000000000)(d:Nat)(hd0:0<d)(hd:d<4294967296)(w:World)(h:Hp)(g:G w h)(hA:S3 A (lim a) h):CR 113 #[.slice A ((lim a).length) c,mW d] w h (fun v h1=>∃ v1,∃ r:Nat,v=.tuple #[v1,mW r]∧RN h1 v1 (a/d)∧r=a%d):=by
 have hs:=((sS g).aS hA);refine go Tryz.func113 [(0,qS A ((lim a).length) c),(1,mW d)] rfl (aa hs [.v 4 (sZ),.v 5 (uW 0)] (aG (lL hs [.m 9 0,.v 10 (nV ((lim a).length))] (lK 11 123 ((lim a).length) 1 4 (uW 0) ew 0 hs (fun b1 w2 h3 hs=>?_)))));have hl4:(List.replicate ((lim a).length) 0).length=((lim a).length):=by simp
 refine lL hs [.m 6 11] (aG (lL hs [.v 7 (uV 0)] (af (aa hs [.m 12 0,.v 13 (nV ((lim a).length))] (lV 14 (iV ((((lim a).length:Nat):Int)-1)) ?_ (hr:=rS ((((lim a).length:Nat)-1)) kR ((eW oM oM).trans oM)))))));refine lL hs [.m 8 14] (bn ?_);refine bQ _ (CG.loop (fun μ_ Γ w_=>∃ (m:Nat) (z:List Nat) (r:Nat) (h_:Hp),μ_=m∧Γ=[(0,qS A ((lim a).length) c),(1,mW d),(4,sZ),(5,uW 0),(6,qS (sB b1) ((lim a).length) ((lim a).length)),(8,iV ((m:Int)-1)),(7,mV r)]∧SS w h w_ h_ [⟨b1,123,(z).flatMap ew⟩] [] [S3 A (lim a)]∧m≤(lim a).length∧z.length=(lim a).length∧Ld z∧a=d*ak 4294967296 z+(4294967296^m*r+ak 4294967296 ((lim a).take m))∧r<d∧(∀ k,k<m→z.getD k 0=0)) _ ⟨(lim a).length,List.replicate ((lim a).length) 0,0,h3,rfl,rfl,hs.to _ _,nR _,hl4,Ld.rep _,(by rw[dz,List.take_length,ll];simp),hd0,fun k _=>ej⟩ ?_);rintro _ _ w5 ⟨m,z,r,h6,hm7,rfl,hs,hm,hzl,hZ,inv,hr,hz⟩;have hai:=(Ld.lim a).get (m-1);refine cQ (aa hs [.m 15 8] ?_);cases hb8:(decide ((0:Int)≤((m:Int)-1:Int)))
 ·
  have phb8:=oF hb8;refine lB 16 hb8 (ah (CG.exit ?_))
  show CG _ _ _ _ _ _ _ _
  refine aa hs [.m 39 6] ?_;have hm0:m=0:=by omega
  rw[hm0,Nat.pow_zero,Nat.one_mul,List.take_zero] at inv
  have inv_:a=d*ak 4294967296 z+r:=by simpa [ak] using inv
  obtain ⟨hE_,hE2⟩:=re inv_ hr;have hE:ak 4294967296 z=a/d:=hE_;obtain ⟨h9,hs,sg10,lo11,bc12⟩:=hs.pub 0;replace hs:=(hs.to [] []).aS (SlO.of_flat (sz:=1) (f:=ew) (d:=0) (b:=b1) (o:=0) (l:=z) (fun _=>rfl) sg10);refine ag 40 hs (qf (sB b1) ((lim a).length) z ((lim a).length) hzl oM oM _ _ hs.g hs.f.1) (fun _ _ hs=>lL hs [.m 41 7] (lV 42 (mW r) ?_ (hr:=aU (aU (n:=IntKind.wrap .u32 (r:Int)) kR (qy _)) oM)));exact lL hs [.m 4 40,.m 5 42] (ac hs [] (.tuple #[qS (sB b1) (tl z ((lim a).length)) ((lim a).length),mW r]) (⟨_,r,rfl,RN.trim hZ hE hzl (nR _) hs.f.1,hE2⟩))
 have phb8:=oT hb8;refine lB 16 hb8 (ao (cK (cQ (kZ (aa hs [.m 19 7] (lV 20 (mV (r*4294967296%18446744073709551616)) ?_ (hr:=rU (((r:Int)*4294967296)) kR (jG r 4294967296))))))));refine lL hs [.m 21 0,.m 22 8] (lX 23 A ((lim a).length) c 1 ((m:Int)-1) (m-1) ((hs.f.1).ok oM) ?_);refine lH 24 (mW ((lim a).getD (m-1) 0)) hs ((hs.f.1).el (m-1) oM) (lV 25 (mV ((lim a).getD (m-1) 0)) ?_ (hr:=rU ((((lim a).getD (m-1) 0:Nat):Int)) kR (bx oM oM)));refine lV 26 (mV (r*4294967296+(lim a).getD (m-1) 0)) ?_ (hr:=aU (gT (t:=22) (u:=22) (x:=.tmp 20) (y:=.tmp 25) (a:=(r*4294967296%18446744073709551616)) (b:=((lim a).getD (m-1) 0)) kR kR kR oM oM _) (by rw[Nat.mod_eq_of_lt (show r*4294967296<18446744073709551616 by omega),xY hai]));refine lL hs [.m 7 26] (aG (lL hs [.m 27 6,.m 28 8,.m 29 7,.m 30 1] (lV 31 (mV d) ?_ (hr:=rU ((d:Int)) kR (bx oM oM)))));have hqr:=pH (r:=r) (x:=(lim a).getD (m-1) 0) hd0 hr hai hd;refine lV 32 (mV ((r*4294967296+(lim a).getD (m-1) 0)/d)) ?_ (hr:=aU (cZ (t:=22) (u:=22) (x:=.tmp 29) (y:=.tmp 31) (k:=.u64) (a:=((r*4294967296+(lim a).getD (m-1) 0:Nat):Int)) (b:=(d:Int)) kR kR kR oM _) (i7 (r*4294967296+(lim a).getD (m-1) 0) d oM));refine lV 33 (mW (((r*4294967296+(lim a).getD (m-1) 0)/d:Nat)%4294967296)) ?_ (hr:=rT ((((r*4294967296+(lim a).getD (m-1) 0)/d:Nat):Int)) kR (qy _));refine lX 34 (sB b1) ((lim a).length) ((lim a).length) 1 ((m:Int)-1) (m-1) rfl (lW 0 z ew 1 (m-1) (((r*4294967296+(lim a).getD (m-1) 0)/d:Nat)%4294967296:Nat) hs oM (fun _ hs=>?_));have za:((z).set (m-1) (((r*4294967296+(lim a).getD (m-1) 0)/d:Nat)%4294967296:Nat)).length=((lim a).length):=by rw[List.length_set];exact hzl
 replace hs:=hs.to [⟨b1,123,((z).set (m-1) (((r*4294967296+(lim a).getD (m-1) 0)/d:Nat)%4294967296:Nat)).flatMap ew⟩] [];refine lN (kQ (lL hs [.m 35 7,.m 36 1] (lV 37 (mV d) ?_ (hr:=rU ((d:Int)) kR (bx oM oM)))));refine lV 38 (mV ((r*4294967296+(lim a).getD (m-1) 0)%d)) ?_ (hr:=aU (eE (t:=22) (u:=22) (x:=.tmp 35) (y:=.tmp 37) (k:=.u64) (a:=((r*4294967296+(lim a).getD (m-1) 0:Nat):Int)) (b:=(d:Int)) kR kR kR oM _) (cJ (r*4294967296+(lim a).getD (m-1) 0) d));refine lL hs [.m 7 38] (lN (kQ (lL hs [.m 17 8] (lV 18 (iV (((m-1:Nat):Int)-1)) ?_ (hr:=rS ((((m:Int)-1)-1)) kR ((eW oM oM).trans oM))))));refine lL hs [.m 8 18] (lD ?_);intro a_ ka;refine ⟨_,_,?_,⟨m-1,(z).set (m-1) (((r*4294967296+(lim a).getD (m-1) 0)/d:Nat)%4294967296:Nat),((r*4294967296+(lim a).getD (m-1) 0)%d:Nat),h6,rfl,rfl,hs.to _ _,oM,za,(hZ.set _ (Nat.mod_lt _ kD)),(by rw[hqr.1];exact qB oM oM (hz _ oM) inv hqr.2.1),hqr.2.2,(fun k hk=>by rw[bq oM,if_neg oM];exact hz k oM)⟩,ka.to _ kR⟩
 omega
theorem m0 {B:List Bx}:∀ (ps:List (Nat × Nat × Nat)) (q:Nat) (a:Addr),(bA B ps)[q]?=some a→∃ p∈ps,a.block=(aw B p.1).b:=by
  intro ps
  induction ps with
  | nil=>intro q a h;simp[bA] at h
  | cons p ps ih =>
    intro q a h
    unfold bA at h
    rcases Nat.lt_or_ge q (jy (aw B p.1).b p.2.1 p.2.2).length with hl|hl
    · rw[List.getElem?_append_left hl] at h
      exact ⟨p,by simp,by rw[dH _ _ _ _ _ h]⟩
    · rw[List.getElem?_append_right hl] at h
      obtain ⟨p',hp',e⟩:=ih _ _ h;exact ⟨p',by simp[hp'],e⟩
section
variable {M:Ms} {P:Program} {n:Nat} {N R:Po} {X:Nat→Po} {ops:Array Oper} {k k0:Nat} {L:Array Bool} {Γ:bI} {w:World} {h:Hp} {w0:World} {h0:Hp} {B:List Bx} {Rs:List Rw} {F:List (Hp→Prop)}
theorem DB {α:Type}(j:Nat)(l:List α)(f:α→List Value)(sz e:Nat)(x:α)(s:SS w0 h0 w h B Rs F)(hk:e<l.length)(H:∀ w',Put (aw B j).b w w'→SS w0 h0 w' h (fc B j ((l.set e x).flatMap f)) Rs F→LG P n N R X ops (k+1) Γ w')(hc:cS ops Γ k=true:=by kernel_rfl)
  (hj:decide (j<B.length)=true:=by kernel_rfl)(hB:(aw B j).vs=l.flatMap f:=by kernel_rfl)(hf:∀ x,(f x).length=sz:=by intro _;rfl)
  (he:cV P (execOp (ev Γ) (am ops k))=some (.skip,kI (aw B j).b (0+e*sz) (f x)):=by kernel_rfl):LG P n N R X ops k Γ w :=
 LG.putA j l f sz e x s.st s.g0 (jT hc).1 (jT hc).2 hj hB hf hk he (fun w' p s'=>H w' p (s.put0 (oT hj) p s' (ii (oT hj))))
theorem E0 {α:Type}(i j:Nat)(l:List α)(f:α→List Value)(sz e:Nat)(x:α)(s:SS w0 h0 w h B Rs F)(hk:e<l.length)(H:∀ w',Put (aw B j).b w w'→SS w0 h0 w' h (fc B j ((l.set e x).flatMap f)) Rs F→AG M P n N R X ops k0 (L.setIfInBounds i true) Γ w')(hc:BN ops k0 L Γ i=true:=by kernel_rfl)
  (hj:decide (j<B.length)=true:=by kernel_rfl)(hB:(aw B j).vs=l.flatMap f:=by kernel_rfl)(hf:∀ x,(f x).length=sz:=by intro _;rfl)
  (he:cV P (execOp (ev Γ) (am ops i))=some (.skip,kI (aw B j).b (0+e*sz) (f x)):=by kernel_rfl)(hz:∀ K bs,M.z=some (K,bs)→K≤(aw B j).b∨(aw B j).b∈bs:=by intro _ _ e;cases e):AG M P n N R X ops k0 L Γ w :=
 T.putA i j l f sz e x s.st s.g0 (iC hc).1 (iC hc).2 hj hB hf hk he (fun w' p s'=>H w' p (s.put0 (oT hj) p s' (ii (oT hj)))) hz
theorem aQ {α:Type}(i t j:Nat)(l:List α)(f:α→List Value)(sz:Nat)(d:α)(e:Nat)(v:Value)(s:SS w0 h0 w h B Rs F)(hk:e<l.length)(H:AG M P n N R X ops k0 (L.setIfInBounds i true) ((t,v)::Γ) w)(hM:(aw B j).b ∉ M.l:=by exact List.not_mem_nil)(hc:vK n ops k0 [] L Γ i t=true:=by kernel_rfl)
  (hj:decide (j<B.length)=true:=by kernel_rfl)(hB:(aw B j).vs=l.flatMap f:=by kernel_rfl)(hf:∀ x,(f x).length=sz:=by intro _;rfl)
  (he:bE P (execOp (ev Γ) (am ops i)) (f (l.getD e d))=some (.value v,jy (aw B j).b (0+e*sz) (f (l.getD e d)).length):=by kernel_rfl):AG M P n N R X ops k0 L Γ w :=
 aL i t v (fun w' hx=>bu _ _ _ _ he (fun q a u ha hu=>by
  rw[dH _ _ _ _ _ ha,((s.st.own _ (a6 (oT hj))).mo hx hM).cell,hB];rw[←eu hf d l e hk] at hu
  have hq:q<sz:=by
   rcases Nat.lt_or_ge q sz with hl|hl
   ·exact hl
   ·rw[List.getElem?_eq_none (by simp;omega)] at hu;cases hu
  rw[List.getElem?_take_of_lt hq,List.getElem?_drop] at hu
  rw[Nat.zero_add];exact hu)) H hc
theorem uU (t j:Nat){f:FuncId}{args:Array Value}{Φ:Value→Prop}(s:SS w0 h0 w h B Rs F)(c:∀ hp,G w hp→AllF F hp→Seg hp (aw B j).b 0 (aw B j).vs→Calls P f args w (Ret w hp (fun v _=>Φ v)))(H:∀ v w' h',Up w h w' h'→SS w0 h0 w' h' B Rs F→Φ v→LG P n N R X ops (k+1) ((t,v)::Γ) w')(hj:decide (j<B.length)=true:=by kernel_rfl)(hc:cL ops Γ k t n=true:=by kernel_rfl)(hr:(execOp (ev Γ) (am ops k)).run P w=.ok (.enter f args) w:=by kernel_rfl):LG P n N R X ops k Γ w :=
 iz t (s.lends (oT hj) c) (fun v w' h' u hΦ=>H v w' h' u (s.step u) hΦ) hc hr
theorem SS.lends2 (s:SS w0 h0 w h B Rs F){i j:Nat}(hi:i<B.length)(hj:j<B.length)(hne:i≠j){f:FuncId}{args:Array Value}{Φ:Value→Prop}(c:∀ hp,G w hp→AllF F hp→Seg hp (aw B i).b 0 (aw B i).vs→Seg hp (aw B j).b 0 (aw B j).vs→Calls P f args w (Ret w hp (fun v _=>Φ v))):Calls P f args w (Ret w h (fun v _=>Φ v)):=by
 have hm:=a6 hi;have hm2:=a6 hj;have hb:(aw B j).b≠(aw B i).b:=dj s.st (decide_eq_true hj) (decide_eq_true hi) (by simpa using hne.symm);obtain ⟨hp,g,gw,sg,ho⟩:=ug s.g (s.st.jk _ hm) (s.st.own _ hm);have hj2:hp[(aw B j).b]?=some junk:=by rw[ho _ hb];exact s.st.jk _ hm2
 obtain ⟨hp2,g2,gw2,sg2,ho2⟩:=ug g hj2 (s.st.own _ hm2);refine (c hp2 g2 ((s.f.gw s.mo gw).gw s.mo gw2) (sg.gw gw2) sg2).mono ?_;rintro e w' ⟨v,h',he,u,hΦ⟩;obtain ⟨h1,u1⟩:=nx hj2 ho2 (g.sz g2) u;obtain ⟨h2,u2⟩:=nx (s.st.jk _ hm) ho (s.g.sz g) u1;exact ⟨v,h2,he,u2,hΦ⟩
theorem Eh (t i j:Nat){f:FuncId}{args:Array Value}{Φ:Value→Prop}(s:SS w0 h0 w h B Rs F)(c:∀ hp,G w hp→AllF F hp→Seg hp (aw B i).b 0 (aw B i).vs→Seg hp (aw B j).b 0 (aw B j).vs→Calls P f args w (Ret w hp (fun v _=>Φ v)))(H:∀ v w' h',SS w0 h0 w' h' B Rs F→Φ v→LG P n N R X ops (k+1) ((t,v)::Γ) w')(hij:(decide (i<B.length) && decide (j<B.length) && (i != j))=true:=by kernel_rfl)(hc:cL ops Γ k t n=true:=by kernel_rfl)(hr:(execOp (ev Γ) (am ops k)).run P w=.ok (.enter f args) w:=by kernel_rfl):LG P n N R X ops k Γ w:=by
 simp only[Bool.and_eq_true,decide_eq_true_eq,bne_iff_ne,ne_eq] at hij
 exact lC t s (s.lends2 hij.1.1 hij.1.2 hij.2 c) H hc hr
theorem uZ {w w':World}{h hp h':Hp}{b:Nat}{M:List Nat}(hj:h[b]?=some junk)(ho:∀ c,c≠b→hp[c]?=h[c]?)(hsz:hp.size=h.size)(u:UpM M w hp w' h'):∃ h'',UpM M w h w' h''∧(∀ c,c≠b→h''[c]?=h'[c]?):=by
 have hlt:=aN hj;have hlt':b<h'.size:=Nat.lt_of_lt_of_le oM u.gr.size;refine ⟨h'.setIfInBounds b junk,⟨u.mo,⟨by simp;rw[←hsz];exact u.gr.size,fun c hc=>?_⟩,⟨by simp;exact u.g.size,fun c=>?_⟩⟩,fun c hc=>Array.getElem?_setIfInBounds_ne (Ne.symm hc)⟩
 ·by_cases e:b=c
  ·subst e;rw[Array.getElem?_setIfInBounds_self_of_lt hlt',hj]
  ·rw[Array.getElem?_setIfInBounds_ne e,u.gr.blk c oM,ho c (Ne.symm e)]
 ·by_cases e:b=c
  ·subst e;right;rw[Array.getElem?_setIfInBounds_self_of_lt hlt']
  ·rw[Array.getElem?_setIfInBounds_ne e];exact u.g.blk c
theorem CJ (t i j:Nat){f:FuncId}{args:Array Value}{Φ:Value→World→Prop}(s:SS w0 h0 w h B Rs F)(c:∀ hp,G w hp→AllF F hp→hp[(aw B i).b]?=some junk→Seg hp (aw B j).b 0 (aw B j).vs→Calls P f args w (cA (aw B i).b w hp (fun v w' _=>Φ v w')))(H:∀ v w' h',UpM [(aw B i).b] w h w' h'→Φ v w'→LG P n N R X ops (k+1) ((t,v)::Γ) w')(hij:(decide (i<B.length) && decide (j<B.length) && (i != j))=true:=by kernel_rfl)(hc:cL ops Γ k t n=true:=by kernel_rfl)(hr:(execOp (ev Γ) (am ops k)).run P w=.ok (.enter f args) w:=by kernel_rfl):LG P n N R X ops k Γ w:=by
 simp only[Bool.and_eq_true,decide_eq_true_eq,bne_iff_ne,ne_eq] at hij
 have hm:=a6 hij.1.2;have hb:(aw B i).b≠(aw B j).b:=dj s.st (decide_eq_true hij.1.1) (decide_eq_true hij.1.2) (by simpa using hij.2);obtain ⟨hp,g,gw,sg,ho⟩:=ug s.g (s.st.jk _ hm) (s.st.own _ hm);refine cY (rb:=(aw B i).b) (Φ:=fun v w' _=>Φ v w') (h:=h) t ((c hp g (s.f.gw s.mo gw) (by rw[ho _ hb];exact s.st.jk _ (a6 hij.1.1)) sg).mono ?_) (fun v w' h' u hΦ=>H v w' h' u hΦ) hc hr;rintro e w' ⟨v,h',he,u,hΦ⟩;obtain ⟨h'',u',_⟩:=uZ (s.st.jk _ hm) ho (s.g.sz g) u;exact ⟨v,h'',he,u',hΦ⟩
theorem Fj {α:Type}(t j:Nat)(x y:Operand)(tt e:TypeId)(f:α→List Value)(d:α)(A:Option Addr)(l2:List α)(m m2 c dc:Nat)(s:SS w0 h0 w h B Rs F)(so:SlO 1 f d h A l2)(hm2:l2.length=m2)(hmm:m2=m)(hpos:0<m)(hlen:(aw B j).vs.length=m)
  (H:∀ w',SS w0 h0 w' h (fc B j (l2.flatMap f)) Rs F→LG P n N R X ops (k+1) ((t,.int .i64 (m:Nat))::Γ) w')(hm47:m≤1099511627776:=by omega)(hc:cL ops Γ k t n=true:=by kernel_rfl)(hj:decide (j<B.length)=true:=by kernel_rfl)
  (hf:∀ x,(f x).length=1:=by intro _;rfl)(h1:∀ x,(f x).all (·.oneCell')=true:=by intro _;kernel_rfl)(ho:(am ops k).op=.call { callee:=.builtin .copy,args:=#[x,y],argTypes:=#[tt,tt] }:=by kernel_rfl)(hx:ev Γ x=.slice (some ⟨(aw B j).b,0,none⟩) m dc:=by kernel_rfl)(hy:ev Γ y=.slice A m2 c:=by kernel_rfl)
  (hu:P.underlying tt=some (.slice e):=by kernel_rfl)(hi:(P.info? e).map (·.size)=some 1:=by kernel_rfl):LG P n N R X ops k Γ w:=by
 subst hmm;have hm:=hm2;have hj':=oT hj;have hown:=s.st.own _ (a6 hj');have hl:(l2.flatMap f).length=m2:=by rw[dq hf,hm];omega
 rw[so.ok oM] at hy
 have hrun:=run_copy_row (P:=P) w tt tt (am ops k).type e (aw B j).b 0 m2 dc ⟨aB A,aO A,none⟩ m2 c (aw B j).vs.toArray (aw B j).t (l2.flatMap f) hu hi hown (by rw[hl];exact (Nat.min_self m2).symm) (pT s.g (so.flat hf)) (by rw[hl];simp[hlen]) (fun u hu=>by
  obtain ⟨a,_,ha⟩:=List.mem_flatMap.1 hu;exact (List.all_eq_true.1 (h1 a)) u ha)
 have e1:((aw B j).vs.toArray.toList.take 0++l2.flatMap f++(aw B j).vs.toArray.toList.drop (0+(l2.flatMap f).length)).toArray=(l2.flatMap f).toArray:=by
  rw[hl];simp[List.drop_eq_nil_of_le,hlen]
 rw[e1,hl] at hrun
 have p:Put (aw B j).b w (w.setRow (aw B j).b (l2.flatMap f).toArray):=⟨rfl,rfl,rfl,by simp,fun c hc=>setRow_other _ _ _ _ hc⟩
 have ho':Own (w.setRow (aw B j).b (l2.flatMap f).toArray) (aw B j).b (aw B j).t (dW (aw B j).vs 0 (l2.flatMap f)):=by
  have e2:dW (aw B j).vs 0 (l2.flatMap f)=l2.flatMap f:=by
   have:=io (l2.flatMap f) (aw B j).vs [] (by rw[hlen,hl])
   simpa using this
  rw[e2];exact setRow_heap _ _ _ _ _ _ hown
 have s':=s.st.put s.g0 hj' p ho'
 have e2:dW (aw B j).vs 0 (l2.flatMap f)=l2.flatMap f:=by
  have:=io (l2.flatMap f) (aw B j).vs [] (by rw[hlen,hl])
  simpa using this
 unfold eo at s'
 rw[e2] at s'
 refine LG.val t _ _ (bD hc).1 (bD hc).2 ?_ (H _ (s.put0 hj' p s' (ii hj')))
 unfold execOp
 have e3:goInt m2=.int .i64 (m2:Nat):=rfl;rw[e3] at hrun
 simp only[ho,resolve,invoke,builtin,Sem.run_bind,Sem.run_pure,Result.andThen_ok,List.map_toArray,List.map_cons,List.map_nil,hx,hy,hrun]
theorem lj {Q:Exit→Act→World→Prop}{i:Nat}{oi:Oper}{v:Value}{S:World→Prop}(hi:ops[i]?=some oi)(hsel:∀ (j:Nat) (o:Oper) cs b,ops[j]?=some o→o.op≠.select cs b)
    (hQ:∀ c a w,Q (.panic c) (a.put oi.dst v) w→Q (.panic c) a w)(hcl:∀ w w',S w→Tl M w w'→S w') :
    ∀ (n:Nat) (L:Array Bool) (a:Act) (w:World),
      (∀ j oj,ops[j]?=some oj→j≠i→L.getD j true=false→(∀ e∈oj.after,Region.binds .any e=true→e.on≠i)→oi.apart ops oj=true) →
      i∈Region.ready .any ops L→YieldsIf P ops S oi v a→S w→kN M P ops Q 0 n (L.setIfInBounds i true) (a.put oi.dst v) w→kN M P ops Q 0 (n+1) L a w:=by
  intro n
  induction n with
  | zero =>
    intro L a w _ hr hy hS H;refine ⟨fun h=>(by rw[h] at hr;cases hr),fun j hj=>?_⟩
    by_cases hji:j=i
    · subst hji;exact hy.wpOp hi hS ⟨Rl.refl _ _ _ _,H⟩
    · have:=ready_mono hj hji
      rw[H.1] at this
      cases this
  | succ n ih =>
    intro L a w hfree hr hy hS H;refine ⟨fun h=>(by rw[h] at hr;cases hr),fun j hj=>?_⟩
    by_cases hji:j=i
    · subst hji;exact hy.wpOp hi hS ⟨Rl.refl _ _ _ _,H⟩
    · have h1:=H.2 j (ready_mono hj hji)
      obtain ⟨hjun,oj,hoj,hall⟩:=mem_ready.1 hj
      have hnot:∀ e∈oj.after,Region.binds .any e=true→e.on≠i:=fun e he hb heq=>by
        have h1:=hall e he hb;have h0:=(mem_ready.1 hr).1;rw[heq] at h1
        obtain ⟨hl,h0'⟩:=Au h0
        simp[Array.getD,hl,h0'] at h1
      have h2:=wpOp_putIf hoj (hfree j oj hoj hji hjun hnot) (fun cs b=>hsel i oi cs b hi) (fun cs b=>hsel j oj cs b hoj) hQ hy h1
      have hfree':∀ k ok,ops[k]?=some ok→k≠i→(L.setIfInBounds j true).getD k true=false →
          (∀ e∈ok.after,Region.binds .any e=true→e.on≠i)→oi.apart ops ok=true:=fun k ok hk hki hun hno=>by
        refine hfree k ok hk hki ?_ hno
        by_cases hjk:j=k
        · subst hjk;exact hjun
        · rw[getD_set_ne true hjk] at hun;exact hun
      refine wpOp_mono (fun a' w' h3=>⟨h3.2.1,ih (L.setIfInBounds j true) a' w' hfree' (ready_mono hr (Ne.symm hji)) h3.1 (hcl _ _ hS (h3.2.1.2 (Nat.zero_le _))) ?_⟩) h2;rw[Array.setIfInBounds_comm _ _ hji];exact h3.2.2
def vC (n:Nat)(ops:Array Oper)(L:Array Bool)(Γ:bI)(i t:Nat):Bool :=
  decide (i<ops.size) && Region.noSelect ops && Region.free .any ops L i && (Region.ready .any ops L).contains i && ((am ops i).dst == some t) && decide (t<n) && aW Γ (am ops i) && (aZ ops Γ (am ops i) == some true)
theorem wR (i t:Nat)(v:Value){S:World→Prop}(hcl:∀ w w',S w→Tl M w w'→S w')(hS:S w)(hv:∀ w',S w'→(execOp (ev Γ) (am ops i)).run P w'=.ok (.value v) w')(H:AG M P n N R X ops 0 (L.setIfInBounds i true) ((t,v)::Γ) w)(hc:vC n ops L Γ i t=true):AG M P n N R X ops 0 L Γ w:=by
 unfold vC at hc
 simp only[Bool.and_eq_true,decide_eq_true_eq,beq_iff_eq] at hc
 obtain ⟨⟨⟨⟨⟨⟨⟨h1,h2⟩,h3⟩,h4⟩,h5⟩,h6⟩,h7⟩,h8⟩:=hc;have hr:i∈Region.ready .any ops L:=by simpa using h4
 have hg:=bv (ops:=ops) h1;intro a ka;have e1:=ka.exec (Region.noSelect_spec h2 i _ · · hg) h7;have HA:=H _ (ka.put h6 v)
 unfold A at *
 rw[dk hr];refine lj (S:=S) hg (Region.noSelect_spec h2) (fun c a w hq=>hq.elim) hcl _ _ _ _ (fun j oj hj hji hun=>Region.free_spec hg h3 j oj hj hji hun) hr (.inl ⟨ka.want h8,fun w' hs'=>by rw[e1];exact hv w' hs'⟩) hS ?_;rw[h5];exact HA
theorem zV (i t:Nat)(v:Value)(H:AG M P n N R X ops 0 (L.setIfInBounds i true) ((t,v)::Γ) w)(hc:vC n ops L Γ i t=true:=by kernel_rfl)(hv:∀ w,(execOp (ev Γ) (am ops i)).run P w=.ok (.value v) w:=by intro _;kernel_rfl):AG M P n N R X ops 0 L Γ w :=
 wR i t v (S:=fun _=>True) (fun _ _ _ _=>trivial) trivial (fun w' _=>hv w') H hc
theorem zO {K:Nat}(i t:Nat)(ps:List (Nat × Nat × Nat))(v:Value)(hz:M.z=some (K,[]))(hK:K≤w.heap.size)(s:SS w0 h0 w h B Rs F)(hlt:∀ p∈ps,(aw B p.1).b<K)(H:AG M P n N R X ops 0 (L.setIfInBounds i true) ((t,v)::Γ) w)(hc:vC n ops L Γ i t=true:=by kernel_rfl)(hp:bF B ps=true:=by kernel_rfl)(he:bE P (execOp (ev Γ) (am ops i)) (bT B ps)=some (.value v,bA B ps):=by kernel_rfl):AG M P n N R X ops 0 L Γ w :=
 wR i t v (S:=fun w'=>K≤w'.heap.size∧∀ b,b<K→w'.heap[b]?=w.heap[b]?) (fun w1 w2 hs ht=>by
  obtain ⟨h1,h2⟩:=ht K [] hz;exact ⟨Nat.le_trans hs.1 h1,fun b hb=>(h2 b hb List.not_mem_nil).trans (hs.2 b hb)⟩) ⟨hK,fun _ _=>rfl⟩ (fun w' hs=>bu _ _ _ _ he (fun q a u ha hu=>by
  obtain ⟨p,hpm,hpa⟩:=m0 ps q a ha;have:=bP (fun x hx=>s.st.own x hx) ps hp q a u ha hu;rw[←this]
  unfold World.cell?
  rw[hs.2 _ (hpa▸hlt p hpm)])) H hc
theorem zC (i t:Nat){f:FuncId}{args:Array Value}(c:Calls P f args w fun e w'=>∃ v,e=.returned v∧Tl M w w'∧AG M P n N R X ops 0 (L.setIfInBounds i true) ((t,v)::Γ) w')(hc:(ff ops 0 L i && aW Γ (am ops i) && ((am ops i).dst == some t) && decide (t<n))=true:=by kernel_rfl)(hw:aZ ops Γ (am ops i)=some true:=by kernel_rfl)
  (hr:(execOp (ev Γ) (am ops i)).run P w=.ok (.enter f args) w:=by kernel_rfl):AG M P n N R X ops 0 L Γ w:=by
 simp only[Bool.and_eq_true,decide_eq_true_eq,beq_iff_eq] at hc
 obtain ⟨⟨⟨h1,h2⟩,h3⟩,h4⟩:=hc;obtain ⟨hg,hs⟩:=gy h1;intro a ka;refine A.one h1 hg (R':=fun v w'=>Tl M w w'∧AG M P n N R X ops 0 (L.setIfInBounds i true) ((t,v)::Γ) w') ⟨ka.want hw,.inr (.inr ⟨f,args,?_,c⟩)⟩ (fun v w' hq=>hq.1) (fun v w' hq=>?_)
 ·rw[ka.exec (Region.noSelect_spec hs i _ · · hg) h2];exact hr
 ·rw[h3];exact hq.2 _ (ka.put h4 v)
theorem Bf {K:Nat}{w':World}(hz:M.z=some (K,[]))(hK:K≤w.heap.size)(x:Ext w w'):Tl M w w':=fun K' bs e=>by
 rw[hz] at e
 injection e with e;injection e with e1 e2
 subst e1 e2;exact ⟨x.size,fun b hb _=>Below.block x b oM⟩
theorem B3 {K b:Nat}{w':World}(hz:M.z=some (K,[]))(hK:K≤w.heap.size)(hb:K≤b)(x:Mo [b] w w'):Tl M w w':=fun K' bs e=>by
 rw[hz] at e
 injection e with e;injection e with e1 e2
 subst e1 e2;exact ⟨x.size,fun c hc _=>x.blk c oM (by simp;omega)⟩
theorem nu {K:Nat}(i t:Nat){f:FuncId}{args:Array Value}{Φ:Value→Hp→Prop}(c:Calls P f args w (Ret w h Φ))(hz:M.z=some (K,[]))(hK:K≤w.heap.size)(H:∀ v w' h',Up w h w' h'→K≤w'.heap.size→Φ v h'→AG M P n N R X ops 0 (L.setIfInBounds i true) ((t,v)::Γ) w')(hc:(ff ops 0 L i && aW Γ (am ops i) && ((am ops i).dst == some t) && decide (t<n))=true:=by kernel_rfl)(hw:aZ ops Γ (am ops i)=some true:=by kernel_rfl)
  (hr:(execOp (ev Γ) (am ops i)).run P w=.ok (.enter f args) w:=by kernel_rfl):AG M P n N R X ops 0 L Γ w :=
 zC i t (c.mono fun e w' ⟨v,h',he,u,hΦ⟩=>⟨v,he,Bf hz hK u.ext,H v w' h' u (Nat.le_trans hK u.ext.size) hΦ⟩) hc hw hr
theorem EW {K rb:Nat}(i t:Nat){f:FuncId}{args:Array Value}{Φ:Value→World→Hp→Prop}(c:Calls P f args w (cA rb w h Φ))(hz:M.z=some (K,[]))(hK:K≤w.heap.size)(hrb:K≤rb)(H:∀ v w' h',UpM [rb] w h w' h'→K≤w'.heap.size→Φ v w' h'→AG M P n N R X ops 0 (L.setIfInBounds i true) ((t,v)::Γ) w')(hc:(ff ops 0 L i && aW Γ (am ops i) && ((am ops i).dst == some t) && decide (t<n))=true:=by kernel_rfl)(hw:aZ ops Γ (am ops i)=some true:=by kernel_rfl)
  (hr:(execOp (ev Γ) (am ops i)).run P w=.ok (.enter f args) w:=by kernel_rfl):AG M P n N R X ops 0 L Γ w :=
 zC i t (c.mono fun e w' ⟨v,h',he,u,hΦ⟩=>⟨v,he,B3 hz hK hrb u.mo,H v w' h' u (Nat.le_trans hK u.mo.size) hΦ⟩) hc hw hr
theorem dw (s:SS w0 h0 w h B Rs F)(j:Nat)(hj:decide (j<B.length)=true:=by kernel_rfl):(aw B j).b<w.heap.size:=by rw[s.g.size];exact aN (s.jk j hj)
theorem BR (t b o len cap sz:Nat)(i:Int)(j e:Nat)(H:LG P n N R X ops (k+1) ((t,.pointer (some ⟨b,0+e*sz,none⟩))::Γ) w)(hc:cL ops Γ k t n=true:=by kernel_rfl)(he:tM P (ev Γ) (am ops k)=some (.slice (some ⟨b,o,none⟩) len cap,.int .i64 i,sz):=by kernel_rfl)(hk:i=j:=by omega)(hlt:j<len:=by omega)(hoe:o+j*sz=0+e*sz:=by omega):LG P n N R X ops k Γ w :=
 LG.val t _ w (bD hc).1 (bD hc).2 (hoe▸eL he rfl hk hlt w) H
theorem ET (i t b o len cap sz:Nat)(x:Int)(j e:Nat)(H:AG M P n N R X ops k0 (L.setIfInBounds i true) ((t,.pointer (some ⟨b,0+e*sz,none⟩))::Γ) w)(hc:cE n ops k0 [] L Γ i t=true:=by kernel_rfl)(he:tM P (ev Γ) (am ops i)=some (.slice (some ⟨b,o,none⟩) len cap,.int .i64 x,sz):=by kernel_rfl)(hk:x=j:=by omega)(hlt:j<len:=by omega)(hoe:o+j*sz=0+e*sz:=by omega):AG M P n N R X ops k0 L Γ w :=
 aV i t _ H hc (fun w=>hoe▸eL he rfl hk hlt w)
theorem E1 (i t b o len cap sz:Nat)(x:Int)(j e:Nat)(H:AG M P n N R X ops k0 (L.setIfInBounds i true) ((t,.pointer (some ⟨b,0+e*sz,none⟩))::Γ) w)(hc:cT n ops k0 L Γ i t=true:=by kernel_rfl)(he:tM P (ev Γ) (am ops i)=some (.slice (some ⟨b,o,none⟩) len cap,.int .i64 x,sz):=by kernel_rfl)(hk:x=j:=by omega)(hlt:j<len:=by omega)(hoe:o+j*sz=0+e*sz:=by omega):AG M P n N R X ops k0 L Γ w :=
 T.val i t _ w (mr hc).1 (mr hc).2 (hoe▸eL he rfl hk hlt w) H
theorem EZ (t b o len cap sz:Nat)(i:Int)(j o2:Nat)(H:LG P n N R X ops (k+1) ((t,.slice (some ⟨b,o2,none⟩) (len-j) (cap-j))::Γ) w)(hc:cL ops Γ k t n=true:=by kernel_rfl)(he:Ap P (ev Γ) (am ops k)=some (.slice (some ⟨b,o,none⟩) len cap,some (.int .i64 i),none,sz):=by kernel_rfl)(hk:i=j:=by omega)(hlt:j≤len:=by omega)(hne:cap≠j:=by omega)(hoe:o2=o+j*sz:=by omega):LG P n N R X ops k Γ w:=by
 have h:=mg j he hk hlt w;rw[if_neg hne] at h
 have e:(some (⟨b,o,none⟩:Addr)).map (·.add (j*sz))=some ⟨b,o2,none⟩:=by subst hoe;simp[Addr.add]
 rw[e] at h
 exact LG.val t _ w (bD hc).1 (bD hc).2 h H
theorem SS.torow {α:Type}(s:SS w0 h0 w h B Rs F)(j:Nat)(f:α→List Value)(l:List α)(sz m:Nat)(hm:l.length=m)(hlen:m≤1099511627776)(hB:(aw B j).vs=l.flatMap f:=by kernel_rfl)(hf:∀ x,(f x).length=sz:=by intro _;rfl)(hj:decide (j<B.length)=true:=by kernel_rfl) :
    SS w0 h0 w h (B.eraseIdx j) (⟨(aw B j).t,sz,some ⟨(aw B j).b,0,none⟩,m,m,l.flatMap f⟩::Rs) F:=by
  have hj':=oT hj;have hm0:=a6 hj';have ho:=s.st.own _ hm0
  have hne:∀ x∈B.eraseIdx j,x.b≠(aw B j).b:=by
    intro x hx hb;obtain ⟨i,hi,he⟩:=List.mem_iff_getElem.1 hx;rw[List.getElem_eraseIdx] at he
    rw[List.length_eraseIdx_of_lt hj'] at hi
    split at he
    · rename_i hl
      refine dj s.st (i:=i) (j:=j) (decide_eq_true oM) hj (by simp;omega) ?_;rw[←hb,←he];simp[aw,show i<B.length by omega]
    · rename_i hl
      refine dj s.st (i:=i+1) (j:=j) (decide_eq_true oM) hj (by simp;omega) ?_;rw[←hb,←he];simp[aw,show i+1<B.length by omega]
  refine ⟨s.g0,⟨s.st.up,fun x hx=>s.st.own x (List.mem_of_mem_eraseIdx hx),fun x hx=>s.st.jk x (List.mem_of_mem_eraseIdx hx),fun x hx=>s.st.lo x (List.mem_of_mem_eraseIdx hx),s.st.nd.sublist ((List.eraseIdx_sublist B j).map (·.b))⟩,?_,?_,s.mo,s.f⟩
  · intro r hr
    rcases List.mem_cons.1 hr with rfl|hr
    · refine ⟨⟨by rw[dq hf,hm],.inr ⟨(aw B j).b,m,(aw B j).vs.toArray,rfl,s.st.lo _ hm0,ho,Nat.le_refl _,by unfold maxLen;omega,by rw[hB];simp[dq hf,hm],by rw[hB];simp[List.take_of_length_le,dq hf,hm]⟩⟩,?_,?_⟩
      · intro b hb
        have:(aw B j).b=b:=by simpa [Rw.v,Value.ownBlock] using hb
        rw[←this];exact s.st.jk _ hm0
      · intro b hb hmem
        have:(aw B j).b=b:=by simpa [Rw.v,Value.ownBlock] using hb
        obtain ⟨x,hx,e⟩:=List.mem_map.1 hmem;exact hne x hx (e.trans this.symm)
    · exact (s.ro r hr).sub _ (fun b hb=>by
        obtain ⟨x,hx,e⟩:=List.mem_map.1 hb;exact List.mem_map.2 ⟨x,List.mem_of_mem_eraseIdx hx,e⟩)
  · refine List.pairwise_cons.2 ⟨fun r hr b hb hv=>?_,s.ap⟩
    have:(aw B j).b=b:=by simpa [Rw.v,Value.ownBlock] using hb
    exact (s.ro r hr).ap b hv (this▸List.mem_map.2 ⟨_,hm0,rfl⟩)
theorem BP {α:Type}(t j m b2:Nat)(l:List α)(f:α→List Value)(d x:α)(bt:Nat)(z:Value)(s:SS w0 h0 w h B Rs F)(sg:Seg h b2 0 (f x))(hm:l.length=m)(hlen:m≤1000000000)
  (H:∀ A' c' w' h',SS w0 h0 w' h' (B.eraseIdx j) Rs ((fun h=>SlO 1 f d h A' (l++[x]))::F)→m+1≤c'→LG P n N R X ops (k+1) ((t,.slice A' (m+1) c')::Γ) w')(hc:cL ops Γ k t n=true:=by kernel_rfl)(hj:decide (j<B.length)=true:=by kernel_rfl)(hB:(aw B j).vs=l.flatMap f:=by kernel_rfl)
  (he:Cv P (ev Γ) (am ops k)=some (.slice (some ⟨(aw B j).b,0,none⟩) m m,.slice (some ⟨b2,0,none⟩) 1 1,(aw B j).t,z,1,bt):=by kernel_rfl)(hzs:z.cells.size=1:=by kernel_rfl)(hf:∀ x,(f x).length=1:=by intro _;rfl)(h1:(f x).all (·.oneCell')=true:=by kernel_rfl)(hbt:bt≤100:=by decide):LG P n N R X ops k Γ w:=by
 have s1:=s.torow j f l 1 m hm oM hB hf hj
 refine EN t 0 (f x) s1 (mD s1.g sg) (hf x) (fun u hu=>(List.all_eq_true.1 h1) u hu) (by simp) rfl hc he hzs kD oM (by
  have:(m+1)*bt≤(m+1)*100:=Nat.mul_le_mul_left _ hbt
  omega) (fun A' c' w' h' s'=>?_)
 have e1:m+1=(l++[x]).length:=by simp[hm]
 have e2:l.flatMap f++f x=(l++[x]).flatMap f:=by simp
 rw[e2,List.set_cons_zero] at s'
 have s2:SS w0 h0 w' h' (B.eraseIdx j) (⟨(aw B j).t,1,A',c',(l++[x]).length,(l++[x]).flatMap f⟩::Rs) F:=by rw[←e1];exact s'
 obtain ⟨h'',s3,hc'⟩:=s2.pubr 0 d hf rfl (by simp);exact H A' c' w' h'' s3 (by rw[e1];exact hc')
theorem SS.perm (s:SS w0 h0 w h B Rs F){B':List Bx}(p:B.Perm B'):SS w0 h0 w h B' Rs F :=
 ⟨s.g0,⟨s.st.up,fun x hx=>s.st.own x (p.mem_iff.2 hx),fun x hx=>s.st.jk x (p.mem_iff.2 hx),fun x hx=>s.st.lo x (p.mem_iff.2 hx),(p.map (·.b)).nodup_iff.1 s.st.nd⟩,
  fun r hr=>(s.ro r hr).sub _ (fun b hb=>(p.map (·.b)).mem_iff.2 hb),s.ap,s.mo,s.f⟩
end
def l3 (u2 u1 u0:Nat):Nat:=4294967296*(4294967296*u2+u1)+u0
def l2 (v1 v0:Nat):Nat:=4294967296*v1+v0
structure Hss (u2 u1 u0 v1 v0 g r o:Nat):Prop where
  e:g*v1+(r+4294967296*o)=4294967296*u2+u1
  lt:g+1=4294967296∨l3 u2 u1 u0<(g+1)*l2 v1 v0
  gb:g<4294967296
section
variable {n j G:Nat} {u v:List Nat}
end
structure Gk (u2 u1 u0 v1 v0 g r:Nat):Prop where
  e:g*v1+r=4294967296*u2+u1
  lt:4294967296≤g+1∨l3 u2 u1 u0<(g+1)*l2 v1 v0
section joi
variable {P:Program} {n:Nat} {N R:Po} {X:Nat→Po} {Γ:bI} {w:World}
theorem CG.join {x y:Code}(I:bI→World→Prop)(h1:CG P n (fun a w'=>∃ Γ',I Γ' w'∧Kn n a Γ') R X x Γ w)(h2:∀ Γ w,I Γ w→CG P n N R X y Γ w):CG P n N R X (.seq x y) Γ w:=by
 intro a ka;refine wp_seq (wp_mono (h1 a ka) ?_);intro e a w hq;cases e with
 | normal=>obtain ⟨Γ',hI,ka'⟩:=hq;exact h2 Γ' w hI a ka'
 | _=>exact hq
end joi
section fin
variable {M:Ms} {P:Program} {n:Nat} {N R:Po} {X:Nat→Po} {ops:Array Oper} {k0:Nat} {hr:Hp} {L:Array Bool} {Γ:bI} {w:World} {h:Hp} {w0:World} {h0:Hp} {B:List Bx} {Rs:List Rw} {F:List (Hp→Prop)}
theorem iP (s:SS w0 h0 w h B Rs F)(H:∀ w' h',Up w h w' h'→SS w0 h0 w' h' B Rs F→AG M P n N R X ops k0 L Γ w')(hc:dX ops [] L=true:=by kernel_rfl):EG M P n N R X ops k0 hr [] L Γ w h:=Rg.fin0 hc (fun w' h' u=>H w' h' u (s.step u))
end fin
section tail
variable {M:Ms} {P:Program} {n:Nat} {N R:Po} {X:Nat→Po} {ops:Array Oper} {k0:Nat} {L:Array Bool} {Γ:bI} {w:World} {h:Hp} {w0:World} {h0:Hp} {B:List Bx} {Rs:List Rw} {F:List (Hp→Prop)}
end tail
section self
variable {P:Program} {n:Nat} {N R:Po} {X:Nat→Po} {ops:Array Oper} {k:Nat} {Γ:bI} {w:World} {h:Hp} {w0:World} {h0:Hp} {B:List Bx} {Rs:List Rw} {F:List (Hp→Prop)}
end self
theorem p0 (a:Nat)(A:Option Addr)(c:Nat)(hc:(lim a).length≤c)(b:Nat)(D:Option Addr)(d:Nat)(hd:(lim b).length≤d)(hLa:(lim a).length≤3000000000)(hLb:(lim b).length≤3000000000)(hab:a<b)(w:World)(h:Hp)(g:G w h)(hA:S3 A (lim a) h)(hD:S3 D (lim b) h):CR 87 #[.slice A ((lim a).length) c,.slice D ((lim b).length) d] w h (fun v h1=>∃ v1 v2,v=.tuple #[v1,v2]∧RN h1 v1 (a/b)∧RN h1 v2 (a%b)):=by
 have hs:=(((sS g).aS hA).aS hD);have hcl:=cH hab;refine go Tryz.func87 [(0,qS A ((lim a).length) c),(1,qS D ((lim b).length) d)] rfl (aa hs [.v 4 (sZ),.v 5 (sZ)] (af (aa hs [.m 25 0,.m 26 1] (ag 27 hs (iU a A c hc b D d hd oM oM _ _ hs.g hs.f.2.1 hs.f.1) (fun w1 h2 hs=>?_)))));have ⟨hb3,phb3⟩:=dT (p:=(bK a b:Int)<(0:Int)) oM;exact lB 28 hb3 (ao (aa hs [.m 29 0,.v 4 (sZ),.m 5 29] (ac hs [] (.tuple #[sZ,qS A ((lim a).length) c]) (⟨_,_,rfl,by rw[Nat.div_eq_of_lt hab];exact ⟨none,0,rfl,nR _,SlO.nil⟩,by rw[Nat.mod_eq_of_lt hab];exact ⟨A,c,rfl,hc,hs.f.2.1⟩⟩))))
theorem nh {b:Nat}(h:(lim b).length=1):b<4294967296∧(lim b).getD 0 0=b∧0<b:=by
 have h1:=jw b;rw[h] at h1
 have h2:0<b:=eU.1 oM;refine ⟨by omega,?_,h2⟩;rw[vy h2 oM];rfl
theorem m6 (a:Nat)(A:Option Addr)(c:Nat)(hc:(lim a).length≤c)(b:Nat)(D:Option Addr)(d:Nat)(hd:(lim b).length≤d)(hLa:(lim a).length≤3000000000)(hLb:(lim b).length≤3000000000)(hab:b≤a)(h1:(lim b).length=1)(w:World)(h:Hp)(g:G w h)(hA:S3 A (lim a) h)(hD:S3 D (lim b) h):CR 87 #[.slice A ((lim a).length) c,.slice D ((lim b).length) d] w h (fun v h1=>∃ v1 v2,v=.tuple #[v1,v2]∧RN h1 v1 (a/b)∧RN h1 v2 (a%b)):=by
 have hs:=(((sS g).aS hA).aS hD);have hcl:=d4 hab;obtain ⟨hb1,hb2,hb3⟩:=nh h1;refine go Tryz.func87 [(0,qS A ((lim a).length) c),(1,qS D ((lim b).length) d)] rfl (aa hs [.v 4 (sZ),.v 5 (sZ)] (af (aa hs [.m 25 0,.m 26 1] (ag 27 hs (iU a A c hc b D d hd oM oM _ _ hs.g hs.f.2.1 hs.f.1) (fun w1 h2 hs=>?_)))));have ⟨hb3,phb3⟩:=dF (p:=(bK a b:Int)<(0:Int)) oM;refine lB 28 hb3 (ah (cK (cQ (aa hs [.m 30 1,.v 31 (nV ((lim b).length))] ?_))));have hb4:((((lim b).length:Nat):Int) == (1:Int))=true:=jR oM;have phb4:=eq_of_beq hb4;refine lB 32 hb4 (ao (aa hs [.m 34 0,.m 35 1] (lX 36 D ((lim b).length) d 1 0 0 ((hs.f.1).ok oM) ?_)));refine lH 37 (mW ((lim b).getD 0 0)) hs ((hs.f.1).el 0 oM) (lC 38 hs (D7 a A c hc oM ((lim b).getD 0 0) oM oM _ _ hs.g hs.f.2.1) ?_);rintro _ w5 h6 hs ⟨_,r,rfl,⟨Aq,cq,rfl,hcq,hq⟩,hr_⟩;replace hs:=hs.aS hq;refine lL hs [.m 33 38,.v 39 (qS Aq ((lim (a/((lim b).getD 0 0))).length) cq),.v 40 (mW r),.m 6 39,.m 7 40] (aG (lL hs [.m 41 6,.m 42 7] ?_));have hrb:=Nat.mod_lt a (show 0<(lim b).getD 0 0 by omega);refine lV 43 (mV r) ?_ (hr:=rU ((r:Int)) kR (bx oM oM));refine lC 44 hs (mR r oM _ _ hs.g) ?_;rintro _ _ _ hs ⟨A7,c8,rfl,hc9,za⟩;replace hs:=hs.aS za;exact lL hs [.m 4 41,.m 5 44] (ac hs [] (.tuple #[qS Aq ((lim (a/((lim b).getD 0 0))).length) cq,qS A7 ((lim r).length) c8]) (⟨_,_,rfl,by rw[hb2] at *;exact ⟨_,_,rfl,hcq,hs.f.2.1⟩,by rw[←hb2,←hr_];exact ⟨_,_,rfl,hc9,hs.f.1⟩⟩))
theorem jS (x y:Nat):Nat.gcd y (x%y)=Nat.gcd x y:=by rw[Nat.gcd_comm y,←Nat.gcd_rec,Nat.gcd_comm]
def aj (x:Nat):List Value:=[.int .u64 (x:Nat)]
theorem sE {l:List Nat}{m:Nat}(h:0<m)(h0:l.getD (m-1) 0=0):tl l m=tl l (m-1):=by
 obtain ⟨k,rfl⟩:∃ k,m=k+1:=⟨m-1,by omega⟩;rw[iS,if_pos (by simpa using h0)];rfl
theorem mI (s:ByteArray)(hs8:8≤s.size)(w:World)(h:Hp)(g:G w h):CV 130 #[.string s] w h (mV (wv s)):=by
 have hs:=sS g;have b0:=bS s 0;have b1:=bS s 1;have b2:=bS s 2;have b3:=bS s 3;have b4:=bS s 4;have b5:=bS s 5;have b6:=bS s 6;have b7:=bS s 7;refine go Tryz.func130 [(0,.string s)] rfl (aa hs [.v 2 (uV 0)] (af (cR 38 [] mixed hs av ?_)));refine eV 0 3 (.string s) (eV 1 4 (.int .u8 (ax s 0:Nat)) ?_ (hv:=fun _=>cj (tx:=9) (x:=.tmp 3) (i:=.const (iV 0)) (k:=.i64) (s:=s) (n:=0) (j:=(0:Int)) kR kR kR kR oM oM _));refine eV 2 5 (mV (ax s 0)) ?_ (hv:=fun _=>rU (((ax s 0:Nat):Int)) kR (bx oM oM));refine eV 3 6 (.string s) (eV 4 7 (.int .u8 (ax s 1:Nat)) ?_ (hv:=fun _=>cj (tx:=9) (x:=.tmp 6) (i:=.const (iV 1)) (k:=.i64) (s:=s) (n:=1) (j:=(1:Int)) kR kR kR kR oM oM _));refine eV 5 8 (mV (ax s 1)) ?_ (hv:=fun _=>rU (((ax s 1:Nat):Int)) kR (bx oM oM));refine eV 6 9 (mV ((ax s 1)*256)) ?_ (hv:=fun _=>rU ((((ax s 1:Nat):Int)*256)) kR ((bx oM oM).trans oM));refine eV 7 10 (mV (ax s 0+ax s 1*256)) ?_ (hv:=fun _=>aU (gT (t:=22) (u:=22) (x:=.tmp 5) (y:=.tmp 9) (a:=(ax s 0)) (b:=((ax s 1)*256)) kR kR kR oM oM _) (by rw[fw 8 oM];first|done|omega));refine eV 8 11 (.string s) (eV 9 12 (.int .u8 (ax s 2:Nat)) ?_ (hv:=fun _=>cj (tx:=9) (x:=.tmp 11) (i:=.const (iV 2)) (k:=.i64) (s:=s) (n:=2) (j:=(2:Int)) kR kR kR kR oM oM _));refine eV 10 13 (mV (ax s 2)) ?_ (hv:=fun _=>rU (((ax s 2:Nat):Int)) kR (bx oM oM));refine eV 11 14 (mV ((ax s 2)*65536)) ?_ (hv:=fun _=>rU ((((ax s 2:Nat):Int)*65536)) kR ((bx oM oM).trans oM));refine eV 12 15 (mV (ax s 0+ax s 1*256+ax s 2*65536)) ?_ (hv:=fun _=>aU (gT (t:=22) (u:=22) (x:=.tmp 10) (y:=.tmp 14) (a:=(ax s 0+ax s 1*256)) (b:=((ax s 2)*65536)) kR kR kR oM oM _) (by rw[fw 16 oM];first|done|omega));refine eV 13 16 (.string s) (eV 14 17 (.int .u8 (ax s 3:Nat)) ?_ (hv:=fun _=>cj (tx:=9) (x:=.tmp 16) (i:=.const (iV 3)) (k:=.i64) (s:=s) (n:=3) (j:=(3:Int)) kR kR kR kR oM oM _));refine eV 15 18 (mV (ax s 3)) ?_ (hv:=fun _=>rU (((ax s 3:Nat):Int)) kR (bx oM oM));refine eV 16 19 (mV ((ax s 3)*16777216)) ?_ (hv:=fun _=>rU ((((ax s 3:Nat):Int)*16777216)) kR ((bx oM oM).trans oM));refine eV 17 20 (mV (ax s 0+ax s 1*256+ax s 2*65536+ax s 3*16777216)) ?_ (hv:=fun _=>aU (gT (t:=22) (u:=22) (x:=.tmp 15) (y:=.tmp 19) (a:=(ax s 0+ax s 1*256+ax s 2*65536)) (b:=((ax s 3)*16777216)) kR kR kR oM oM _) (by rw[fw 24 oM];first|done|omega));refine eV 18 21 (.string s) (eV 19 22 (.int .u8 (ax s 4:Nat)) ?_ (hv:=fun _=>cj (tx:=9) (x:=.tmp 21) (i:=.const (iV 4)) (k:=.i64) (s:=s) (n:=4) (j:=(4:Int)) kR kR kR kR oM oM _));refine eV 20 23 (mV (ax s 4)) ?_ (hv:=fun _=>rU (((ax s 4:Nat):Int)) kR (bx oM oM));refine eV 21 24 (mV ((ax s 4)*4294967296)) ?_ (hv:=fun _=>rU ((((ax s 4:Nat):Int)*4294967296)) kR ((bx oM oM).trans oM));refine eV 22 25 (mV (ax s 0+ax s 1*256+ax s 2*65536+ax s 3*16777216+ax s 4*4294967296)) ?_ (hv:=fun _=>aU (gT (t:=22) (u:=22) (x:=.tmp 20) (y:=.tmp 24) (a:=(ax s 0+ax s 1*256+ax s 2*65536+ax s 3*16777216)) (b:=((ax s 4)*4294967296)) kR kR kR oM oM _) (by rw[fw 32 oM];first|done|omega));refine eV 23 26 (.string s) (eV 24 27 (.int .u8 (ax s 5:Nat)) ?_ (hv:=fun _=>cj (tx:=9) (x:=.tmp 26) (i:=.const (iV 5)) (k:=.i64) (s:=s) (n:=5) (j:=(5:Int)) kR kR kR kR oM oM _));refine eV 25 28 (mV (ax s 5)) ?_ (hv:=fun _=>rU (((ax s 5:Nat):Int)) kR (bx oM oM));refine eV 26 29 (mV ((ax s 5)*1099511627776)) ?_ (hv:=fun _=>rU ((((ax s 5:Nat):Int)*1099511627776)) kR ((bx oM oM).trans oM));refine eV 27 30 (mV (ax s 0+ax s 1*256+ax s 2*65536+ax s 3*16777216+ax s 4*4294967296+ax s 5*1099511627776)) ?_ (hv:=fun _=>aU (gT (t:=22) (u:=22) (x:=.tmp 25) (y:=.tmp 29) (a:=(ax s 0+ax s 1*256+ax s 2*65536+ax s 3*16777216+ax s 4*4294967296)) (b:=((ax s 5)*1099511627776)) kR kR kR oM oM _) (by rw[fw 40 oM];first|done|omega));refine eV 28 31 (.string s) (eV 29 32 (.int .u8 (ax s 6:Nat)) ?_ (hv:=fun _=>cj (tx:=9) (x:=.tmp 31) (i:=.const (iV 6)) (k:=.i64) (s:=s) (n:=6) (j:=(6:Int)) kR kR kR kR oM oM _));refine eV 30 33 (mV (ax s 6)) ?_ (hv:=fun _=>rU (((ax s 6:Nat):Int)) kR (bx oM oM));refine eV 31 34 (mV ((ax s 6)*281474976710656)) ?_ (hv:=fun _=>rU ((((ax s 6:Nat):Int)*281474976710656)) kR ((bx oM oM).trans oM));refine eV 32 35 (mV (ax s 0+ax s 1*256+ax s 2*65536+ax s 3*16777216+ax s 4*4294967296+ax s 5*1099511627776+ax s 6*281474976710656)) ?_ (hv:=fun _=>aU (gT (t:=22) (u:=22) (x:=.tmp 30) (y:=.tmp 34) (a:=(ax s 0+ax s 1*256+ax s 2*65536+ax s 3*16777216+ax s 4*4294967296+ax s 5*1099511627776)) (b:=((ax s 6)*281474976710656)) kR kR kR oM oM _) (by rw[fw 48 oM];first|done|omega));refine eV 33 36 (.string s) (eV 34 37 (.int .u8 (ax s 7:Nat)) ?_ (hv:=fun _=>cj (tx:=9) (x:=.tmp 36) (i:=.const (iV 7)) (k:=.i64) (s:=s) (n:=7) (j:=(7:Int)) kR kR kR kR oM oM _));refine eV 35 38 (mV (ax s 7)) ?_ (hv:=fun _=>rU (((ax s 7:Nat):Int)) kR (bx oM oM));refine eV 36 39 (mV ((ax s 7)*72057594037927936)) ?_ (hv:=fun _=>rU ((((ax s 7:Nat):Int)*72057594037927936)) kR ((bx oM oM).trans oM));refine eV 37 40 (mV (ax s 0+ax s 1*256+ax s 2*65536+ax s 3*16777216+ax s 4*4294967296+ax s 5*1099511627776+ax s 6*281474976710656+ax s 7*72057594037927936)) ?_ (hv:=fun _=>aU (gT (t:=22) (u:=22) (x:=.tmp 35) (y:=.tmp 39) (a:=(ax s 0+ax s 1*256+ax s 2*65536+ax s 3*16777216+ax s 4*4294967296+ax s 5*1099511627776+ax s 6*281474976710656)) (b:=((ax s 7)*72057594037927936)) kR kR kR oM oM _) (by rw[fw 56 oM];first|done|omega));exact cC hs (fun w1 h2 hs=>tV 38 2 (mV (ax s 0+ax s 1*256+ax s 2*65536+ax s 3*16777216+ax s 4*4294967296+ax s 5*1099511627776+ax s 6*281474976710656+ax s 7*72057594037927936)) (tN (kX (hs.ret [] (mV (ax s 0+ax s 1*256+ax s 2*65536+ax s 3*16777216+ax s 4*4294967296+ax s 5*1099511627776+ax s 6*281474976710656+ax s 7*72057594037927936)) rfl))))
theorem wJ (A:Option Addr)(c:Nat)(l:List Nat)(hl:l.length≤1099511627776)(hc:l.length≤c)(w:World)(h:Hp)(g:G w h)(hA:SlO 1 aj 0 h A l):CV 133 #[.slice A l.length c] w h (.slice A (tl l l.length) c):=by
 have hs:=((sS g).aS hA);refine go Tryz.func133 [(0,qS A l.length c)] rfl (aa hs [.v 2 (sZ)] (af (kZ ?_)));refine bQ _ (CG.loop (fun μ_ Γ w_=>∃ (m:Nat) (h_:Hp),μ_=m∧Γ=[(2,sZ),(0,qS A m c)]∧SS w h w_ h_ [] [] [fun h_=>SlO 1 aj 0 h_ A l]∧m≤l.length∧tl l l.length=tl l m) _ ⟨l.length,h,rfl,rfl,hs.to _ _,nR _,rfl⟩ ?_);rintro _ _ w1 ⟨m,h2,hm3,rfl,hs,hm,ht⟩;refine cQ (aa hs [.m 3 0,.v 4 (nV m)] ?_);cases hb4:(decide ((0:Int)<(m:Int)))
 ·
  have phb4:=oF hb4;refine lB 5 hb4 (lL hs [.m 6 5] (lG 7 ?_));refine lG 8 (lG 9 (lG 10 (lG 11 (lG 12 (lG 13 (lL hs [.v 14 qF] (ah (CG.exit ?_))))))))
  show CG _ _ _ _ _ _ _ _
  exact aa hs [.m 20 0,.m 2 20] (ac hs [] (qS A m c) (by rw[ht,jY oM]))
 have phb4:=oT hb4;refine lB 5 hb4 (lL hs [.m 6 5,.m 7 0,.m 8 0,.v 9 (nV m)] (bH 10 ((m:Nat)-1) (m-1) ?_));refine lX 11 A m c 1 (m-1:Nat) (m-1) ((hs.f.1).ok oM) (lH 12 (mV (l.getD (m-1) 0)) hs ((hs.f.1).el (m-1) oM) ?_);cases hb5:(((l.getD (m-1) 0:Nat):Int) == (0:Int))
 ·
  have phb5:=ai hb5;refine lB 13 hb5 (lL hs [.v 14 qF] (ah (CG.exit ?_)))
  show CG _ _ _ _ _ _ _ _
  exact aa hs [.m 20 0,.m 2 20] (ac hs [] (qS A m c) (by rw[ht,jY oM]))
 have phb5:=eq_of_beq hb5;refine lB 13 hb5 (lL hs [.v 14 qT] (ao (cK (kZ (kQ (lL hs [.m 15 0,.m 16 0,.v 17 (nV m)] (bH 18 ((m:Nat)-1) (m-1) ?_)))))));refine lT 19 A m c 1 (m-1:Nat) (m-1) (lL hs [.m 0 19] (lD ?_));intro a_ ka;refine ⟨_,_,?_,⟨m-1,h2,rfl,rfl,hs.to _ _,oM,(by rw[ht];exact sE oM oM)⟩,ka.to _ kR⟩
 omega
theorem lu {l m:List Nat}(hl:l.length=m.length)(h:∀ j,j<l.length→l.getD j 0=m.getD j 0):l=m:=by
 apply List.ext_getElem hl
 intro i h1 h2;have:=h i h1
 simpa [h1,h2] using this
theorem lg {l m:List Nat}{i x:Nat}(hi:i<l.length)(h:∀ j,j<i→l.getD j 0=m.getD j 0)(hx:x=m.getD i 0):∀ j,j<i+1→(l.set i x).getD j 0=m.getD j 0:=fun j hj=>by
 rw[bq hi]
 split
 ·rename_i e;rw[←e];exact hx
 ·exact h j oM
def uF (h h1:Hp)(v:Value)(l:List Nat):Prop:=∃ b,v=.slice (some ⟨b,0,none⟩) l.length l.length∧h.size≤b∧h1[b]?=some (.cells (l.flatMap aj).toArray 22 (0,0))∧SlO 1 aj 0 h1 (some ⟨b,0,none⟩) l
theorem gB  (w:World)(h:Hp)(g:G w h):CV 104 #[nv 0] w h sZ:=by
 have hs:=sS g;exact go Tryz.func104 [(0,nv 0)] rfl (aE (lA 1 24 ([uV 0,eS]) hs (fun b1 w2 h3 hs=>lL hs [.v 2 (sZ)] (af (aa hs [.v 5 (qP b1 1),.o 6 (eS) 0 1 1,.v 7 qT,.m 8 7,.v 9 (pB b1),.o 10 (uV 0) 0 0 1,.v 11 qT,.v 12 qT] (ao (aa hs [.v 2 (sZ)] (ac hs [] (sZ) rfl))))))))
theorem fk (s:ByteArray)(k:Nat):(s.extract k s.size).size=s.size-k:=by
 simp[ByteArray.size_extract]
theorem mi {n L:Nat}(hL:0<L):∀ j,j<1→((List.replicate L 0).set 0 (n%18446744073709551616)).getD j 0=(wds n).getD j 0:=fun j hj=>by
 have:j=0:=by omega
 subst this;rw[bq (by simpa using hL),if_pos rfl];have:=mS n
 unfold lo at this
 exact Int.ofNat.inj this
theorem ud (n:Nat)(hn:0<n)(hl:(wds n).length≤1000000000)(hsm:n<18446744073709551616)(w:World)(h:Hp)(g:G w h):CR 104 #[nv n] w h (fun v h1=>uF h h1 v (wds n)):=by
 have hs:=sS g;have hz:=fQ n;have hp:=iX.2 hn;have hlo:=gM hsm;have hz1:=congrArg List.length (bj hn hsm)
 simp only[List.length_singleton] at hz1
 refine go Tryz.func104 [(0,nv n)] rfl (aE (lA 1 24 (nc n) hs (fun b1 w2 h3 hs=>lL hs [.v 2 (sZ)] (af (aa hs [.v 5 (qP b1 1),.o 6 (.string (hi n)) 0 1 1] (lV 7 qT ?_ (hr:=rb kR (f9 (de hsm)))))))));refine lL hs [.m 8 7,.v 9 (pB b1),.o 10 (mV (n%18446744073709551616)) 0 0 1] ?_;have hb4:(((n%18446744073709551616:Nat):Int) == (0:Int))=false:=cv oM;have phb4:=ai hb4;refine lB 11 hb4 (lL hs [.v 12 qF] (ah (cK (aa hs [.v 13 (qP b1 1),.o 14 (.string (hi n)) 0 1 1,.v 15 (nV ((hi n).size))] (lV 16 (nV (((hi n).size)/8)) ?_ (hr:=aU (cZ (t:=3) (u:=3) (x:=.tmp 15) (y:=.const (iV 8)) (k:=.i64) (a:=(((hi n).size:Nat):Int)) (b:=(8:Int)) kR kR kR oM _) (cX ((hi n).size) 8 oM)))))));refine bH 17 (1+(((hi n).size)/8:Nat)) ((wds n).length) (lK 18 22 ((wds n).length) 1 8 (uV 0) aj 0 hs (fun b5 w6 h7 hs=>?_));have hl8:(List.replicate ((wds n).length) 0).length=((wds n).length):=by simp
 refine lL hs [.m 3 18] (aG (lL hs [.m 19 3,.v 20 (pB b1),.o 21 (mV (n%18446744073709551616)) 1 0 1] (lX 22 (sB b5) ((wds n).length) ((wds n).length) 1 0 0 rfl ?_)));refine lW 0 (List.replicate ((wds n).length) 0) aj 1 0 (n%18446744073709551616) hs oM (fun w9 hs=>?_);have zc:((List.replicate ((wds n).length) 0).set 0 (n%18446744073709551616)).length=((wds n).length):=by rw[List.length_set];exact hl8
 replace hs:=hs.to [⟨b5,22,((List.replicate ((wds n).length) 0).set 0 (n%18446744073709551616)).flatMap aj⟩,⟨b1,24,nc n⟩] [];refine af (aa hs [.v 4 (iV 1)] (bn ?_));refine bQ _ (CG.loop (fun μ_ Γ w_=>∃ (i:Nat) (l:List Nat) (h_:Hp),μ_=(wds n).length-i∧Γ=[(1,pB b1),(2,sZ),(3,qS (sB b5) ((wds n).length) ((wds n).length)),(4,nV i)]∧SS w h w_ h_ [⟨b5,22,(l).flatMap aj⟩,⟨b1,24,nc n⟩] [] []∧1≤i∧i≤(wds n).length∧l.length=(wds n).length∧(∀ j,j<i→l.getD j 0=(wds n).getD j 0)) _ ⟨1,(List.replicate ((wds n).length) 0).set 0 (n%18446744073709551616),h7,rfl,rfl,hs.to _ _,nR _,by omega,zc,mi oM⟩ ?_);rintro _ _ _ ⟨i,l,_,hm13,rfl,hs,hi1,hi2,hll,hg⟩;refine cQ (aa hs [.m 23 4,.m 24 3,.v 25 (nV ((wds n).length))] ?_);cases za:(decide ((i:Int)<((((wds n).length):Nat):Int)))
 ·
  have zb:=oF za;refine lB 26 za (ah (CG.exit ?_))
  show CG _ _ _ _ _ _ _ _
  refine aa hs [.m 39 3,.m 2 39] (lN (kX ?_));have hiL:i=(wds n).length:=by omega
  have hlw:l=wds n:=lu oM (fun j hj=>hg j oM);rw[hlw] at hs
  obtain ⟨_,hs,sg16,lo17,bc18⟩:=hs.pub 0;replace hs:=(hs.to [⟨b1,24,nc n⟩] []).aS (SlO.of_flat (sz:=1) (f:=aj) (d:=0) (b:=b5) (o:=0) (l:=wds n) (fun _=>rfl) sg16);exact hs.ret [] (qS (sB b5) ((wds n).length) ((wds n).length)) (⟨b5,rfl,lo17,bc18,hs.f.1⟩)
 have zb:=oT za;refine lB 26 za (ao (cK (cQ (kZ (kQ (lL hs [.m 29 3,.m 30 4,.v 31 (qP b1 1),.o 32 (.string (hi n)) 1 1 1,.m 33 4] (lI 34 ((i:Nat)-1) ?_)))))));refine bH 35 (8*((i:Nat)-1)) (8*(i-1)) (lV 36 (.string ((hi n).extract (8*(i-1)) (hi n).size)) ?_ (hr:=i6 (tx:=9) (x:=.tmp 32) (i:=.tmp 35) (k:=.i64) (s:=hi n) (n:=(8*(i-1))) (j:=((8*(i-1):Nat):Int)) kR kR kR kR oM oM _));refine ag 37 hs (mI ((hi n).extract (8*(i-1)) (hi n).size) (by rw[fk];omega) _ _ hs.g) (fun _ ze hs=>lX 38 (sB b5) ((wds n).length) ((wds n).length) 1 (i:Nat) i rfl (lW 0 l aj 1 i (wv ((hi n).extract (8*(i-1)) (hi n).size):Nat) hs oM (fun _ hs=>?_)));have zd:((l).set i (wv ((hi n).extract (8*(i-1)) (hi n).size):Nat)).length=((wds n).length):=by rw[List.length_set];exact hll
 replace hs:=hs.to [⟨b5,22,((l).set i (wv ((hi n).extract (8*(i-1)) (hi n).size):Nat)).flatMap aj⟩,⟨b1,24,nc n⟩] [];refine lN (kQ (lL hs [.m 27 4] (bH 28 ((i:Nat)+1) (i+1) ?_)));refine lL hs [.m 4 28] (lD ?_);intro a_ ka;refine ⟨_,_,?_,⟨i+1,(l).set i (wv ((hi n).extract (8*(i-1)) (hi n).size):Nat),ze,rfl,rfl,hs.to _ _,oM,oM,zd,(lg oM hg (by rw[f6 n (i-1) oM,show i-1+1=i by omega]))⟩,ka.to _ kR⟩
 omega
theorem uP (n:Nat)(hn:0<n)(hl:(wds n).length≤1000000000)(hbg:18446744073709551616≤n)(w:World)(h:Hp)(g:G w h):CR 104 #[nv n] w h (fun v h1=>uF h h1 v (wds n)):=by
 have hs:=sS g;have hz:=fQ n;have hp:=iX.2 hn;refine go Tryz.func104 [(0,nv n)] rfl (aE (lA 1 24 (nc n) hs (fun b1 w2 h3 hs=>lL hs [.v 2 (sZ)] (af (aa hs [.v 5 (qP b1 1),.o 6 (.string (hi n)) 0 1 1] (lV 7 qF ?_ (hr:=rb kR (fS (dC hbg)))))))));refine lL hs [.m 8 7] (lG 9 ?_);refine lG 10 (lG 11 (lL hs [.v 12 qF] (ah (cK (aa hs [.v 13 (qP b1 1),.o 14 (.string (hi n)) 0 1 1,.v 15 (nV ((hi n).size))] (lV 16 (nV (((hi n).size)/8)) ?_ (hr:=aU (cZ (t:=3) (u:=3) (x:=.tmp 15) (y:=.const (iV 8)) (k:=.i64) (a:=(((hi n).size:Nat):Int)) (b:=(8:Int)) kR kR kR oM _) (cX ((hi n).size) 8 oM))))))));refine bH 17 (1+(((hi n).size)/8:Nat)) ((wds n).length) (lK 18 22 ((wds n).length) 1 8 (uV 0) aj 0 hs (fun b4 w5 h6 hs=>?_));have hl7:(List.replicate ((wds n).length) 0).length=((wds n).length):=by simp
 refine lL hs [.m 3 18] (aG (lL hs [.m 19 3,.v 20 (pB b1),.o 21 (mV (n%18446744073709551616)) 1 0 1] (lX 22 (sB b4) ((wds n).length) ((wds n).length) 1 0 0 rfl ?_)));refine lW 0 (List.replicate ((wds n).length) 0) aj 1 0 (n%18446744073709551616) hs oM (fun w8 hs=>?_);have hl9:((List.replicate ((wds n).length) 0).set 0 (n%18446744073709551616)).length=((wds n).length):=by rw[List.length_set];exact hl7
 replace hs:=hs.to [⟨b4,22,((List.replicate ((wds n).length) 0).set 0 (n%18446744073709551616)).flatMap aj⟩,⟨b1,24,nc n⟩] [];refine af (aa hs [.v 4 (iV 1)] (bn ?_));refine bQ _ (CG.loop (fun μ_ Γ w_=>∃ (i:Nat) (l:List Nat) (h_:Hp),μ_=(wds n).length-i∧Γ=[(1,pB b1),(2,sZ),(3,qS (sB b4) ((wds n).length) ((wds n).length)),(4,nV i)]∧SS w h w_ h_ [⟨b4,22,(l).flatMap aj⟩,⟨b1,24,nc n⟩] [] []∧1≤i∧i≤(wds n).length∧l.length=(wds n).length∧(∀ j,j<i→l.getD j 0=(wds n).getD j 0)) _ ⟨1,(List.replicate ((wds n).length) 0).set 0 (n%18446744073709551616),h6,rfl,rfl,hs.to _ _,nR _,by omega,hl9,mi oM⟩ ?_);rintro _ _ _ ⟨i,l,_,hm12,rfl,hs,hi1,hi2,hll,hg⟩;refine cQ (aa hs [.m 23 4,.m 24 3,.v 25 (nV ((wds n).length))] ?_);cases za:(decide ((i:Int)<((((wds n).length):Nat):Int)))
 ·
  have zb:=oF za;refine lB 26 za (ah (CG.exit ?_))
  show CG _ _ _ _ _ _ _ _
  refine aa hs [.m 39 3,.m 2 39] (lN (kX ?_));have hiL:i=(wds n).length:=by omega
  have hlw:l=wds n:=lu oM (fun j hj=>hg j oM);rw[hlw] at hs
  obtain ⟨_,hs,sg15,lo16,bc17⟩:=hs.pub 0;replace hs:=(hs.to [⟨b1,24,nc n⟩] []).aS (SlO.of_flat (sz:=1) (f:=aj) (d:=0) (b:=b4) (o:=0) (l:=wds n) (fun _=>rfl) sg15);exact hs.ret [] (qS (sB b4) ((wds n).length) ((wds n).length)) (⟨b4,rfl,lo16,bc17,hs.f.1⟩)
 have zb:=oT za;refine lB 26 za (ao (cK (cQ (kZ (kQ (lL hs [.m 29 3,.m 30 4,.v 31 (qP b1 1),.o 32 (.string (hi n)) 1 1 1,.m 33 4] (lI 34 ((i:Nat)-1) ?_)))))));refine bH 35 (8*((i:Nat)-1)) (8*(i-1)) (lV 36 (.string ((hi n).extract (8*(i-1)) (hi n).size)) ?_ (hr:=i6 (tx:=9) (x:=.tmp 32) (i:=.tmp 35) (k:=.i64) (s:=hi n) (n:=(8*(i-1))) (j:=((8*(i-1):Nat):Int)) kR kR kR kR oM oM _));refine ag 37 hs (mI ((hi n).extract (8*(i-1)) (hi n).size) (by rw[fk];omega) _ _ hs.g) (fun _ zd hs=>lX 38 (sB b4) ((wds n).length) ((wds n).length) 1 (i:Nat) i rfl (lW 0 l aj 1 i (wv ((hi n).extract (8*(i-1)) (hi n).size):Nat) hs oM (fun _ hs=>?_)));have zc:((l).set i (wv ((hi n).extract (8*(i-1)) (hi n).size):Nat)).length=((wds n).length):=by rw[List.length_set];exact hll
 replace hs:=hs.to [⟨b4,22,((l).set i (wv ((hi n).extract (8*(i-1)) (hi n).size):Nat)).flatMap aj⟩,⟨b1,24,nc n⟩] [];refine lN (kQ (lL hs [.m 27 4] (bH 28 ((i:Nat)+1) (i+1) ?_)));refine lL hs [.m 4 28] (lD ?_);intro a_ ka;refine ⟨_,_,?_,⟨i+1,(l).set i (wv ((hi n).extract (8*(i-1)) (hi n).size):Nat),zd,rfl,rfl,hs.to _ _,oM,oM,zc,(lg oM hg (by rw[f6 n (i-1) oM,show i-1+1=i by omega]))⟩,ka.to _ kR⟩
 omega
theorem du (n:Nat)(hn:0<n)(hl:(wds n).length≤1000000000)(w:World)(h:Hp)(g:G w h):CR 104 #[nv n] w h (fun v h1=>uF h h1 v (wds n)):=by
 rcases Nat.lt_or_ge n 18446744073709551616 with hs|hs
 ·exact ud n hn hl hs w h g
 ·exact uP n hn hl hs w h g
open Go.RowKit Go.Shelf
def sN:Go.Shelf.Ren:=⟨fun|167=>163|240=>70|276=>102|n=>n,fun|0=>0|4=>4|5=>5|9=>9|20=>20|37=>61|70=>60|72=>63|75=>89|164=>136|80=>65|n=>n,fun n=>n⟩
theorem tR:Go.Proofs.Lays.n167 Tryz.prog sN:={
 mixed:=by kernel_rfl
 f167:=Tryz.func163.trans (congrArg some kR)
 f240:=Tryz.func70.trans (congrArg some kR)
 f276:=Tryz.func102.trans (congrArg some kR)
 t0:=Tryz.underlying0
 a0:=Tryz.isAgg0
 z0:=Tryz.sizeOf0
 v0:=Tryz.zeroValue0
 t4:=Tryz.underlying4
 a4:=Tryz.isAgg4
 z4:=Tryz.sizeOf4
 v4:=Tryz.zeroValue4
 t5:=Tryz.underlying5
 a5:=Tryz.isAgg5
 z5:=Tryz.sizeOf5
 v5:=Tryz.zeroValue5
 t9:=Tryz.underlying9
 a9:=Tryz.isAgg9
 z9:=Tryz.sizeOf9
 v9:=Tryz.zeroValue9
 t20:=Tryz.underlying20
 a20:=Tryz.isAgg20
 z20:=Tryz.sizeOf20
 v20:=Tryz.zeroValue20
 t37:=Tryz.underlying61
 a37:=Tryz.isAgg61
 z37:=Tryz.sizeOf61
 v37:=Tryz.zeroValue61
 t70:=Tryz.underlying60
 a70:=Tryz.isAgg60
 z70:=Tryz.sizeOf60
 v70:=Tryz.zeroValue60
 t72:=Tryz.underlying63
 a72:=Tryz.isAgg63
 z72:=Tryz.sizeOf63
 v72:=Tryz.zeroValue63
 t75:=Tryz.underlying89
 a75:=Tryz.isAgg89
 z75:=Tryz.sizeOf89
 v75:=Tryz.zeroValue89
 t164:=Tryz.underlying136
 a164:=Tryz.isAgg136
 z164:=Tryz.sizeOf136
 v164:=Tryz.zeroValue136 }
theorem qu:Builder.Extra Tryz.prog sN:={
 sizeBuilder:=by kernel_rfl
 liesBuilder:=by kernel_rfl
 t5:=Tryz.underlying5
 a5:=Tryz.isAgg5
 z5:=Tryz.sizeOf5
 v5:=Tryz.zeroValue5
 infoByte:=by kernel_rfl
 cellsByte:=by kernel_rfl
 sizeByte:=by kernel_rfl
 neB5:=by decide }
theorem sP (A:Option Addr)(c:Nat)(l:List Nat)(hd:Wd l)(hl:l.length≤1099511627776)(hc:l.length≤c)(w:World)(h:Hp)(g:G w h)(hA:SlO 1 aj 0 h A l):CV 126 #[.slice A l.length c] w h (nv (aA l)):=by
 have hs:=((sS g).aS hA);have htl:=fZ l l.length;have hdl:(l.drop 1).length=l.length-1:=List.length_drop;refine go Tryz.func126 [(0,qS A l.length c)] rfl (aE (lA 2 24 ([uV 0,eS]) hs (fun b1 w2 h3 hs=>aG (lL hs [.m 7 0] (ag 8 hs (wJ A c l hl hc _ _ hs.g hs.f.1) (fun w4 h5 hs=>lL hs [.m 0 8] (af (aa hs [.m 9 0,.v 10 (nV (tl l l.length))] (bn (aE ?_))))))))));cases hb6:((((tl l l.length):Nat):Int) == (0:Int))
 ·
  have phb6:=ai hb6;refine lB 12 hb6 (lL hs [.m 11 12] (ah (aE ?_)));cases hb7:((((tl l l.length):Nat):Int) == (1:Int))
  ·
   have phb7:=ai hb7;refine lB 15 hb7 (lL hs [.m 14 15] (ah (cK (aE ?_))));have hsB:=hs;refine EM 3 63 [.pointer none,sZ] hs (fun w8 hx hxs hbk=>?_);obtain ⟨h9,hs,-⟩:=hsB.liftJ hx;refine aG (lL hs [.m 20 0,.v 21 (nV (tl l l.length))] (bH 22 (((tl l l.length):Nat)-1) ((tl l l.length)-1) ?_));refine bH 23 (8*((tl l l.length)-1:Nat)) (8*((tl l l.length)-1)) (DE 24 hsB hx (Tryz.Builder_Grow_fresh w4.heap.size w4.heap.size (8*((tl l l.length)-1):Nat) _ (nR _) hbk hxs oM) (fun _ ze hs hx_ hq_=>?_))
   clear hx
   have hx:=hx_;clear hx_;have hib:Lib.IsBuilder 63 5 w4.heap.size w4.heap.size (Lib.byteCells (((l.drop 1).take 0).flatMap b8)) _:=.inr hq_;refine af (aa hs [.m 25 0] (lF 26 A (tl l l.length) c 1 1 1 ?_));replace hs:=hs.aS (hs.f.1.drop 1 c hc);replace hsB:=hsB.aS (hsB.f.1.drop 1 c hc);refine lL hs [.v 27 (nV ((tl l l.length)-1)),.v 28 (iV 0)] (bn ?_);refine bQ _ (CG.loop (fun μ_ Γ w_=>∃ (k:Nat) (h_:Hp),μ_=(tl l l.length)-k∧Γ=[(0,qS A (tl l l.length) c),(2,pB b1),(3,.pointer (some ⟨w4.heap.size,0,none⟩)),(26,qS (if c=1 then A else A.map (·.add (1*1))) ((tl l l.length)-1) (c-1)),(27,nV ((tl l l.length)-1)),(28,nV k)]∧SS w h w_ h_ [⟨b1,24,[uV 0,eS]⟩] [] [fun h_=>SlO 1 aj 0 h_ (if c=1 then A else A.map (·.add (1*1))) (l.drop 1),fun h_=>SlO 1 aj 0 h_ A l]∧k≤(tl l l.length)-1∧Ext w4 w_∧Lib.IsBuilder 63 5 w4.heap.size w4.heap.size (Lib.byteCells (((l.drop 1).take k).flatMap b8)) w_) _ ⟨0,ze,rfl,rfl,hs.to _ _,Nat.zero_le _,hx,hib⟩ ?_);rintro _ _ zf ⟨k,zg,hm14,rfl,hs,hk,hx,hib⟩;have hxk:(l.drop 1).getD k 0<18446744073709551616:=Dg.getD (Dg.drop hd 1) kD k;refine aE ?_;cases za:(decide ((k:Int)<(((tl l l.length)-1:Nat):Int)))
   ·
    have zc:=oF za;refine lB 29 za (af (cw (CG.exit ?_)))
    show CG _ _ _ _ _ _ _ _
    refine cQ (rL ⟨vL w4.heap.size zf.heap.size,none⟩ 5 mixed ?_);obtain ⟨_,hs,hj⟩:=hsB.liftJ hx.drew;refine aV 0 43 (qS A (tl l l.length) c) (aX 1 44 A (tl l l.length) c 1 0 0 ((hs.f.2.1).ok oM) (aH 2 45 (mV (l.getD 0 0)) hs ((hs.f.2.1).el 0 oM) ?_ (fun b hb=>hj b (jb.1 hb).1 (jb.1 hb).2)));refine aC 3 46 ((Tryz.Builder_String_any w4.heap.size w4.heap.size (((l.drop 1).take k).flatMap b8) _ (nq hib ((Ext.refl _).drew)) hx.size).mono fun e_ _ ⟨he_,hb_⟩=>⟨_,he_,rX hb_,?_⟩);obtain ⟨_,hs,-⟩:=hsB.liftJ (Below.trans hx.drew hb_);refine aV 4 47 (.agg #[mV (l.getD 0 0),.string (⟨(((l.drop 1).take k).flatMap b8).toArray⟩)]) (tP 5 0 0 ([mV (l.getD 0 0),.string (⟨(((l.drop 1).take k).flatMap b8).toArray⟩)]) hs (fun _ hs=>tN (kX ?_)));have hkn:k=(tl l l.length)-1:=by omega
    exact hs.ret [(0,0,2)] (.agg #[mV (l.getD 0 0),.string (⟨(((l.drop 1).take k).flatMap b8).toArray⟩)]) (by rw[hkn];exact uv hd oM)
   have zc:=oT za;refine lB 29 za (af (ce (cK (cQ (kZ (aE (lX 30 (if c=1 then A else A.map (·.add (1*1))) ((tl l l.length)-1) (c-1) 1 (k:Nat) k ((hs.f.1).ok oM) ?_)))))));refine lH 31 (mV ((l.drop 1).getD k 0)) hs ((hs.f.1).el k oM) (lL hs [.m 5 31] (aG (lL hs [.v 32 (iV 0)] (bn ?_))));refine bQ _ (CG.loop (fun μ_ Γ w_=>∃ (m:Nat) (h_:Hp),μ_=8-m∧Γ=[(0,qS A (tl l l.length) c),(2,pB b1),(3,.pointer (some ⟨w4.heap.size,0,none⟩)),(26,qS (if c=1 then A else A.map (·.add (1*1))) ((tl l l.length)-1) (c-1)),(27,nV ((tl l l.length)-1)),(28,nV k),(5,mV ((l.drop 1).getD k 0)),(32,nV m)]∧SS w h w_ h_ [⟨b1,24,[uV 0,eS]⟩] [] [fun h_=>SlO 1 aj 0 h_ (if c=1 then A else A.map (·.add (1*1))) (l.drop 1),fun h_=>SlO 1 aj 0 h_ A l]∧m≤8∧Ext w4 w_∧Lib.IsBuilder 63 5 w4.heap.size w4.heap.size (Lib.byteCells (((l.drop 1).take k).flatMap b8++(b8 ((l.drop 1).getD k 0)).take m)) w_) _ ⟨0,zg,rfl,rfl,hs.to _ _,Nat.zero_le _,hx,(by simpa using hib)⟩ ?_);rintro _ _ _ ⟨m,zi,hm22,rfl,hs,hm,hx,hib2⟩;refine aE ?_;cases zb:(decide ((m:Int)<(8:Int)))
   ·
    have zd:=oF zb;refine lB 33 zb (af (cw (CG.exit ?_)))
    show CG _ _ _ _ _ _ _ _
    refine kQ (bH 42 ((k:Nat)+1) (k+1) ?_);refine lL hs [.m 28 42] (lD ?_);intro a_ ka;refine ⟨_,_,?_,⟨k+1,zi,rfl,rfl,hs.to _ _,oM,hx,(by rw[show m=8 by omega,pj oM] at hib2;exact hib2)⟩,ka.to _ kR⟩
    omega
   have zd:=oT zb;refine lB 33 zb (af (ce (cK (cQ (kZ (aa hs [.m 34 32,.m 6 34] (lN (kQ (lL hs [.m 35 5,.m 36 6] (bH 37 (8*(m:Nat)) (8*m) ?_))))))))));refine lV 38 (mV (((l.drop 1).getD k 0)/2^(8*m))) ?_ (hr:=eP (t:=22) (u:=3) (x:=.tmp 35) (y:=.tmp 37) (ky:=.i64) (a:=((l.drop 1).getD k 0)) (n:=(8*m)) kR kR kR oM _);refine lV 39 (.int .u8 ((((l.drop 1).getD k 0)/2^(8*m):Nat)%256:Nat)) ?_ (hr:=aU (n:=IntKind.wrap .u8 ((((l.drop 1).getD k 0)/2^(8*m):Nat):Int)) kR (BF _));refine DE 40 hsB hx (Any.Builder_WriteByte tR qu w4.heap.size w4.heap.size _ ((((l.drop 1).getD k 0)/2^(8*m)%256:Nat):Int) _ hib2 (pi oM oM oM) hx.size) (fun _ zj hs hx_ hq_=>?_)
   clear hx
   have hx:=hx_;clear hx_;rw[nK oM] at hq_
   have hib3:Lib.IsBuilder 63 5 w4.heap.size w4.heap.size _ _:=.inr hq_;refine lN (kQ (bH 41 ((m:Nat)+1) (m+1) ?_));refine lL hs [.m 32 41] (lD ?_);intro a_ ka;refine ⟨_,_,?_,⟨m+1,zj,rfl,rfl,hs.to _ _,oM,hx,hib3⟩,ka.to _ kR⟩
   omega
  have phb7:=eq_of_beq hb7;refine lB 15 hb7 (lL hs [.m 14 15] (ao (aa hs [.m 16 0] (lX 17 A (tl l l.length) c 1 0 0 ((hs.f.1).ok oM) ?_))));exact lH 18 (mV (l.getD 0 0)) hs ((hs.f.1).el 0 oM) (lL hs [.v 19 (.agg #[mV (l.getD 0 0),eS])] (lP 0 0 ([mV (l.getD 0 0),eS]) hs (fun _ hs=>ac hs [(0,0,2)] (.agg #[mV (l.getD 0 0),eS]) (xo hd oM))))
 have phb6:=eq_of_beq hb6;exact lB 12 hb6 (lL hs [.m 11 12] (ao (aa hs [.v 13 (.agg #[uV 0,eS])] (lP 0 0 ([uV 0,eS]) hs (fun _ hs=>ac hs [(0,0,2)] (.agg #[uV 0,eS]) (vo oM))))))
theorem xG (n:Nat)(hn:n<18446744073709551616)(w:World)(h:Hp)(g:G w h):CV 34 #[mV n] w h (nv n):=by
 have hs:=sS g;exact go Tryz.func34 [(0,mV n)] rfl (aE (lA 2 24 ([uV 0,eS]) hs (fun b1 w2 h3 hs=>aG (lL hs [.m 3 0,.v 4 (.agg #[mV n,eS])] (lP 0 0 ([mV n,eS]) hs (fun w4 hs=>ac hs [(0,0,2)] (.agg #[mV n,eS]) (gf hn)))))))
theorem gY (n:Nat)(hn:n<18446744073709551616)(w:World)(h:Hp)(g:G w h):CV 119 #[nv n] w h (.tuple #[mV n,.bool true]):=by
 have hs:=sS g;refine go Tryz.func119 [(0,nv n)] rfl (aE (lA 1 24 (nc n) hs (fun b1 w2 h3 hs=>lL hs [.v 2 (uV 0),.v 3 qF] (af (aa hs [.v 4 (qP b1 1),.o 5 (.string (hi n)) 0 1 1] (lV 6 qF ?_ (hr:=rb kR (CX (de hn)))))))));exact ah (cK (aa hs [.v 7 (pB b1),.o 8 (mV (n%18446744073709551616)) 0 0 1,.m 2 8,.v 3 qT] (ac hs [] (.tuple #[mV (n%18446744073709551616),qT]) (by rw[Nat.mod_eq_of_lt hn]))))
theorem vB (n:Nat)(hn:18446744073709551616≤n)(w:World)(h:Hp)(g:G w h):CV 119 #[nv n] w h (.tuple #[uV 0,.bool false]):=by
 have hs:=sS g;refine go Tryz.func119 [(0,nv n)] rfl (aE (lA 1 24 (nc n) hs (fun b1 w2 h3 hs=>lL hs [.v 2 (uV 0),.v 3 qF] (af (aa hs [.v 4 (qP b1 1),.o 5 (.string (hi n)) 0 1 1] (lV 6 qT ?_ (hr:=rb kR (BY (dC hn)))))))));exact ao (aa hs [.v 2 (uV 0),.v 3 qF] (ac hs [] (.tuple #[uV 0,qF]) rfl))
theorem xe (a b:Nat)(w:World)(h:Hp)(g:G w h):CV 154 #[mV a,mV b] w h (iV (bK a b)):=by
 have hs:=sS g;refine go Tryz.func154 [(0,mV a),(1,mV b)] rfl (aa hs [.v 4 (iV 0)] (af (kZ (aa hs [.m 6 0,.m 7 1] ?_))));cases hb1:(decide ((a:Int)<(b:Int)))
 ·
  have phb1:=oF hb1;refine lB 8 hb1 (lL hs [.m 5 8] (ah (aa hs [.m 10 0,.m 11 1] ?_)));cases hb2:(decide ((b:Int)<(a:Int)))
  ·
   have phb2:=oF hb2;exact lB 12 hb2 (lL hs [.m 9 12] (ah (cK (aa hs [.v 4 (iV 0)] (ac hs [] (iV 0) (by rw[fK oM]))))))
  have phb2:=oT hb2;exact lB 12 hb2 (lL hs [.m 9 12] (ao (aa hs [.v 4 (iV 1)] (ac hs [] (iV 1) (by rw[dG oM])))))
 have phb1:=oT hb1;exact lB 8 hb1 (lL hs [.m 5 8] (ao (aa hs [.v 4 (iV (-1))] (ac hs [] (iV (-1)) (by rw[cH oM])))))
theorem x3 (n:Nat)(hn:n<18446744073709551616)(w:World)(h:Hp)(g:G w h):CV 103 #[nv n] w h (nV (nb n)):=by
 have hs:=sS g;refine go Tryz.func103 [(0,nv n)] rfl (aE (lA 1 24 (nc n) hs (fun b1 w2 h3 hs=>lL hs [.v 2 (iV 0)] (af (aa hs [.v 3 (qP b1 1),.o 4 (.string (hi n)) 0 1 1] (lV 5 qT ?_ (hr:=rb kR (f9 (de hn)))))))));exact ao (aa hs [.v 6 (pB b1),.o 7 (mV (n%18446744073709551616)) 0 0 1] (ag 8 hs (sh (n%18446744073709551616) wM _ _ hs.g) (fun w4 h5 hs=>lL hs [.m 2 8] (ac hs [] (nV (nb (n%18446744073709551616))) (by rw[Nat.mod_eq_of_lt hn])))))
theorem Bo (n:Nat)(hn:18446744073709551616≤n)(hl:(wds n).length≤1000000000)(w:World)(h:Hp)(g:G w h):CV 103 #[nv n] w h (nV (nb n)):=by
 have hs:=sS g;have hz:=fQ n;have h2:=cG hn;refine go Tryz.func103 [(0,nv n)] rfl (aE (lA 1 24 (nc n) hs (fun b1 w2 h3 hs=>lL hs [.v 2 (iV 0)] (af (aa hs [.v 3 (qP b1 1),.o 4 (.string (hi n)) 0 1 1] (lV 5 qF ?_ (hr:=rb kR (fS (dC hn)))))))));refine ah (cK (cQ (cR 14 [] mixed hs av ?_)));refine eV 0 9 (qP b1 1) (eO 1 10 [(0,1,1)] (.string (hi n)) hs (eV 2 11 (nV ((hi n).size)) (jO 3 12 (8*((hi n).size:Nat)) (8*(hi n).size) (eV 4 13 (qP b1 1) (eO 5 14 [(0,1,1)] (.string (hi n)) hs (eV 6 15 (qP b1 1) (eO 7 16 [(0,1,1)] (.string (hi n)) hs (eV 8 17 (nV ((hi n).size)) (jO 9 18 (((hi n).size:Nat)-8) (8*((wds n).length-2)) (eV 10 19 (.string ((hi n).extract (8*((wds n).length-2):Nat) (hi n).size)) ?_ (hv:=fun _=>i6 (tx:=9) (x:=.tmp 14) (i:=.tmp 18) (k:=.i64) (s:=hi n) (n:=(8*((wds n).length-2):Nat)) (j:=((8*((wds n).length-2):Nat):Int)) kR kR kR kR oM oM _)))))))))));refine aq 11 20 hs (fun _ _ hs=>mI ((hi n).extract (8*((wds n).length-2):Nat) (hi n).size) (by rw[fk];omega) _ _ hs.g) (fun w4 h5 hs=>aq 12 21 hs (fun _ _ hs=>sh (wv ((hi n).extract (8*((wds n).length-2):Nat) (hi n).size):Nat) wM _ _ hs.g) (fun w6 h7 hs=>?_));have hw:=f6 n ((wds n).length-2) oM;rw[show (wds n).length-2+1=(wds n).length-1 by omega] at hw
 have hbn:=rD (n:=n) oM;have hnb:nb (wv ((hi n).extract (8*((wds n).length-2)) (hi n).size))≤64:=ke (k:=64) (ww _);rw[←hw] at hbn
 exact jO 13 22 ((8*(hi n).size:Nat)+(nb (wv ((hi n).extract (8*((wds n).length-2):Nat) (hi n).size):Nat):Nat)) (nb n) (cC hs (fun w8 h9 hs=>tV 14 2 (nV (nb n)) (tN (kX (hs.ret [] (nV (nb n)) rfl)))))
theorem dm (n:Nat)(hl:(wds n).length≤1000000000)(w:World)(h:Hp)(g:G w h):CV 103 #[nv n] w h (nV (nb n)):=by
 rcases Nat.lt_or_ge n 18446744073709551616 with hs|hs
 ·exact x3 n hs w h g
 ·exact Bo n hs hl w h g
theorem jC (a b:Nat)(hla:(wds a).length≤1000000000)(hlb:(wds b).length≤1000000000)(w:World)(h:Hp)(g:G w h):CV 122 #[nv a,nv b] w h (iV (bK a b)):=by
 have hs:=sS g;have hza:=fQ a;have hzb:=fQ b;refine go Tryz.func122 [(0,nv a),(1,nv b)] rfl (aE (lA 2 24 (nc a) hs (fun b1 w2 h3 hs=>lA 3 24 (nc b) hs (fun b4 w5 h6 hs=>lL hs [.v 4 (iV 0)] (af (aa hs [.v 8 (qP b1 1),.o 9 (.string (hi a)) 1 1 1,.v 10 (nV ((hi a).size)),.v 11 (qP b4 1),.o 12 (.string (hi b)) 0 1 1,.v 13 (nV ((hi b).size))] ?_))))));cases hb7:((((hi a).size:Nat):Int) != (((hi b).size:Nat):Int))
 ·
  have phb7:=az hb7;refine lB 14 hb7 (ah (cK (cQ (aa hs [.v 22 (qP b1 1),.o 23 (.string (hi a)) 1 1 1,.v 24 (nV ((hi a).size))] (lV 25 (iV (8*(((wds a).length-1:Nat):Int)-8)) ?_ (hr:=rS ((((hi a).size:Nat)-8)) kR ((eW oM oM).trans oM)))))));refine lL hs [.m 5 25] (bn ?_);refine bQ _ (CG.loop (fun μ_ Γ w_=>∃ (m:Nat) (h_:Hp),μ_=m∧Γ=[(2,pB b1),(3,pB b4),(5,iV (8*(m:Int)-8))]∧SS w h w_ h_ [⟨b4,24,nc b⟩,⟨b1,24,nc a⟩] [] []∧m≤(wds a).length-1∧(wds a).length-1=(wds b).length-1∧(wds a).drop (m+1)=(wds b).drop (m+1)) _ ⟨(wds a).length-1,h6,rfl,rfl,hs.to _ _,nR _,oM,(by rw[List.drop_eq_nil_of_le oM,List.drop_eq_nil_of_le oM])⟩ ?_);rintro _ _ w8 ⟨m,h9,hm10,rfl,hs,hm,hlen,hdr⟩;refine cQ (aa hs [.m 26 5] ?_);cases za:(decide ((0:Int)≤(8*(m:Int)-8:Int)))
  ·
   have zd:=oF za;refine lB 27 za (ah (CG.exit ?_))
   show CG _ _ _ _ _ _ _ _
   exact aa hs [.v 46 (pB b1),.o 47 (mV (a%18446744073709551616)) 1 0 1,.v 48 (pB b4),.o 49 (mV (b%18446744073709551616)) 0 0 1] (ag 50 hs (xe (a%18446744073709551616) (b%18446744073709551616) _ _ hs.g) (fun _ _ hs=>lL hs [.m 4 50] (ac hs [] (iV (bK (a%18446744073709551616) (b%18446744073709551616))) (by rw[mj (a:=a) (b:=b) oM (by have hm0:m=0:=oM;rw[hm0] at hdr;exact hdr)]))))
  have zd:=oT za;refine lB 27 za (ao (cK (cQ (kZ (cQ ?_)))));have hsr:=hs;refine tw 10 [] [] mixed hs av (eV 0 30 (qP b1 1) (eO 1 31 [(1,1,1)] (.string (hi a)) hs (eV 2 32 (iV (8*(m:Int)-8)) (eV 3 33 (.string ((hi a).extract (8*(m-1)) (hi a).size)) ?_ (hv:=fun _=>i6 (tx:=9) (x:=.tmp 31) (i:=.tmp 32) (k:=.i64) (s:=hi a) (n:=8*(m-1)) (j:=(8*(m:Int)-8:Int)) kR kR kR kR oM oM _)))));refine eV 5 35 (qP b4 1) (ph 6 36 [(0,1,1)] (.string (hi b)) hsr hs (eV 7 37 (iV (8*(m:Int)-8)) (eV 8 38 (.string ((hi b).extract (8*(m-1)) (hi b).size)) ?_ (hv:=fun _=>i6 (tx:=9) (x:=.tmp 36) (i:=.tmp 37) (k:=.i64) (s:=hi b) (n:=8*(m-1)) (j:=(8*(m:Int)-8:Int)) kR kR kR kR oM oM _))));refine aq 4 34 hs (fun _ _ hs=>mI ((hi a).extract (8*(m-1)) (hi a).size) (by rw[fk];omega) _ _ hs.g) (fun _ _ hs=>aq 9 39 hs (fun _ _ hs=>mI ((hi b).extract (8*(m-1)) (hi b).size) (by rw[fk];omega) _ _ hs.g) (fun _ _ hs=>cC hs (fun _ zg hs=>tV 10 6 (mV (wv ((hi a).extract (8*(m-1)) (hi a).size))) (tV 11 7 (mV (wv ((hi b).extract (8*(m-1)) (hi b).size))) (xi ?_)))));have hwa:=f6 a (m-1) oM;have hwb:=f6 b (m-1) oM;rw[show m-1+1=m by omega] at hwa hwb
  refine lL hs [.m 40 6,.m 41 7] ?_;cases zb:(((wv ((hi a).extract (8*(m-1)) (hi a).size):Nat):Int) != ((wv ((hi b).extract (8*(m-1)) (hi b).size):Nat):Int))
  ·
   have ze:=az zb;refine lB 42 zb (ah (cK (kQ (lL hs [.m 28 5] (lV 29 (iV (8*((m-1:Nat):Int)-8)) ?_ (hr:=rS (((8*(m:Int)-8)-8)) kR ((eW oM oM).trans oM)))))));refine lL hs [.m 5 29] (lD ?_);intro a_ ka;refine ⟨_,_,?_,⟨m-1,zg,rfl,rfl,hs.to _ _,oM,hlen,(by rw[show m-1+1=m by omega];exact dK oM oM hdr oM)⟩,ka.to _ kR⟩
   omega
  have ze:=aY zb;exact lB 42 zb (ao (aa hs [.m 43 6,.m 44 7] (ag 45 hs (xe (wv ((hi a).extract (8*(m-1)) (hi a).size):Nat) (wv ((hi b).extract (8*(m-1)) (hi b).size):Nat) _ _ hs.g) (fun _ _ hs=>lL hs [.m 4 45] (ac hs [] (iV (bK (wv ((hi a).extract (8*(m-1)) (hi a).size):Nat) (wv ((hi b).extract (8*(m-1)) (hi b).size):Nat))) (by rw[f6 a (m-1) oM,f6 b (m-1) oM,show m-1+1=m by omega];exact congrArg (Value.int .i64) (iZ oM oM hdr oM)))))))
 have phb7:=aY hb7;refine lB 14 hb7 (ao (cQ (aa hs [.v 15 (qP b1 1),.o 16 (.string (hi a)) 1 1 1,.v 17 (nV ((hi a).size)),.v 18 (qP b4 1),.o 19 (.string (hi b)) 0 1 1,.v 20 (nV ((hi b).size))] ?_)));cases zc:(decide ((((hi a).size:Nat):Int)<(((hi b).size:Nat):Int)))
 ·
  have zf:=oF zc;exact lB 21 zc (ah (cK (aa hs [.v 4 (iV 1)] (ac hs [] (iV 1) (by rw[dG (d3 oM)])))))
 have zf:=oT zc;exact lB 21 zc (ao (aa hs [.v 4 (iV (-1))] (ac hs [] (iV (-1)) (by rw[cH (d3 oM)]))))
theorem td (hi lo y:Nat)(hlt:hi<y)(hy:y<18446744073709551616)(hlo:lo<18446744073709551616)(w:World)(h:Hp)(g:G w h):CR 132 #[mV hi,mV lo,mV y] w h (fun v _=>∃ q r:Nat,v=.tuple #[uV q,uV r]∧hi*18446744073709551616+lo=y*q+r∧r<y∧q<18446744073709551616):=by
 have hs:=sS g;refine go Tryz.func132 [(0,mV hi),(1,mV lo),(2,mV y)] rfl (aa hs [.v 6 (uV 0),.v 7 (uV 0)] (af (aa hs [.m 19 2] ?_)));have hb1:((y:Int) == (0:Int))=false:=cv oM;have phb1:=ai hb1;refine lB 20 hb1 (ah (cK (cQ (aa hs [.m 22 2,.m 23 0] ?_))));have ⟨hb2,phb2⟩:=dF (p:=(y:Int)≤(hi:Int)) oM;refine lB 24 hb2 (ah (cK (cQ (aa hs [.m 26 0] ?_))));cases hb3:((hi:Int) == (0:Int))
 ·
  have phb3:=ai hb3;refine lB 27 hb3 (ah (cK (aa hs [.m 34 2] (ag 35 hs (wL y wM _ _ hs.g) (fun w4 h5 hs=>?_)))));obtain ⟨s,hsd⟩:∃ x_,x_=64-nb y:=⟨_,rfl⟩;refine lV 36 (mV s) ?_ (hr:=aU (aU (n:=IntKind.wrap .u64 ((64-nb y:Nat):Int)) kR (bx oM oM)) (by rw[hsd]));refine lL hs [.m 8 36] (aG (lL hs [.m 37 2,.m 38 8] ?_));obtain ⟨Y,hY⟩:∃ x_,x_=y*2^s:=⟨_,rfl⟩;have hn:=oc (y:=y) oM oM;rw[←hsd,←hY] at hn
  refine lV 39 (mV Y) ?_ (hr:=aU (fx (t:=22) (u:=148) (x:=.tmp 37) (y:=.tmp 38) (ky:=.u64) (a:=y) (n:=s) kR kR kR _) (by rw[←hY,Nat.mod_eq_of_lt hn.2]));refine lL hs [.m 2 39] (aG (lL hs [.m 40 2] ?_));obtain ⟨y1,hy1⟩:∃ x_,x_=Y/4294967296:=⟨_,rfl⟩;refine lV 41 (mV y1) ?_ (hr:=aU (aU (n:=Int.fdiv (Y:Int) 4294967296) kR (kF _ 4294967296)) (by rw[hy1]));refine lL hs [.m 9 41] (aG (lL hs [.m 42 2] ?_));obtain ⟨y0,hy0⟩:∃ x_,x_=Y%4294967296:=⟨_,rfl⟩;refine lV 43 (mV y0) ?_ (hr:=aU (sO (t:=22) (u:=22) (x:=.tmp 42) (y:=.const (uV 4294967295)) (a:=Y) (m:=4294967295) 32 kR kR kR oM kD _) (by rw[hy0]));refine lL hs [.m 10 43] (aG (lL hs [.m 44 0,.m 45 8] ?_));have hhi:hi*2^s<Y:=by rw[hY];exact Nat.mul_lt_mul_of_pos_right hlt (Nat.two_pow_pos s)
  obtain ⟨hsh,hsl⟩:=vP (hi:=hi) (lo:=lo) (s:=s) oM hlo;have hdl:=Nat.div_le_self lo (2^(64-s));have hYY:Y=y1*4294967296+y0:=by omega
  refine lV 46 (mV (hi*2^s)) ?_ (hr:=aU (fx (t:=22) (u:=148) (x:=.tmp 44) (y:=.tmp 45) (ky:=.u64) (a:=hi) (n:=s) kR kR kR _) (by rw[Nat.mod_eq_of_lt oM]));refine lL hs [.m 47 1,.m 48 8] (lV 49 (mV (64-s)) ?_ (hr:=rU (((64:Int)-(s:Int))) kR (dV 64 s oM oM)));refine lV 50 (mV (lo/2^(64-s))) ?_ (hr:=eP (t:=22) (u:=148) (x:=.tmp 47) (y:=.tmp 49) (ky:=.u64) (a:=lo) (n:=(64-s)) kR kR kR oM _);obtain ⟨u32,hu32⟩:∃ x_,x_=hi*2^s+lo/2^(64-s):=⟨_,rfl⟩;rw[←hu32] at hsh
  have huY:u32<Y:=by
    have e2:(hi+1)*2^s≤y*2^s:=Nat.mul_le_mul_right _ hlt;rw[Nat.add_mul,Nat.one_mul,←hY] at e2
    omega
  refine lV 51 (mV u32) ?_ (hr:=aU (gT (t:=22) (u:=22) (x:=.tmp 46) (y:=.tmp 50) (a:=(hi*2^s)) (b:=(lo/2^(64-s))) kR kR kR oM oM _) (by rw[hu32,Nat.or_comm,fw s hsl,Nat.add_comm]));refine lL hs [.m 11 51] (aG (lL hs [.m 52 1,.m 53 8] ?_));obtain ⟨u10,hu10⟩:∃ x_,x_=lo*2^s%18446744073709551616:=⟨_,rfl⟩;rw[←hu10] at hsh
  have hu10b:u10<18446744073709551616:=by omega
  refine lV 54 (mV u10) ?_ (hr:=aU (fx (t:=22) (u:=148) (x:=.tmp 52) (y:=.tmp 53) (ky:=.u64) (a:=lo) (n:=s) kR kR kR _) (by rw[hu10]));refine lL hs [.m 12 54] (aG (lL hs [.m 55 12] ?_));obtain ⟨u1,hu1⟩:∃ x_,x_=u10/4294967296:=⟨_,rfl⟩;refine lV 56 (mV u1) ?_ (hr:=aU (aU (n:=Int.fdiv (u10:Int) 4294967296) kR (kF _ 4294967296)) (by rw[hu1]));refine lL hs [.m 13 56] (lN (bQ [(2,mV Y),(6,uV 0),(7,uV 0),(8,mV s),(9,mV y1),(10,mV y0),(11,mV u32),(12,mV u10),(13,mV u1)] ?_));refine aa hs [.m 57 12] ?_;obtain ⟨u0,hu0⟩:∃ x_,x_=u10%4294967296:=⟨_,rfl⟩;refine lV 58 (mV u0) ?_ (hr:=aU (sO (t:=22) (u:=22) (x:=.tmp 57) (y:=.const (uV 4294967295)) (a:=u10) (m:=4294967295) 32 kR kR kR oM kD _) (by rw[hu0]));refine lL hs [.m 14 58] (aG (lL hs [.m 59 11,.m 60 9] ?_));have hH0:=jq (Y:=Y) (y1:=y1) (y0:=y0) (u:=u32) (u1:=u1) hYY oM oM oM huY;have hR0:=kg (u:=u32) (y1:=y1) oM;have hM0:=Nat.div_mul_le_self u32 y1;obtain ⟨qa,hqa⟩:∃ x_,x_=u32/y1:=⟨_,rfl⟩;rw[←hqa] at hH0 hR0 hM0
  refine lV 61 (mV qa) ?_ (hr:=aU (aU (cZ (t:=22) (u:=22) (x:=.tmp 59) (y:=.tmp 60) (k:=.u64) (a:=(u32:Int)) (b:=(y1:Int)) kR kR kR oM _) (i7 u32 y1 oM)) (by rw[hqa]));refine lL hs [.m 15 61] (aG (lL hs [.m 62 11,.m 63 15,.m 64 9] (lV 65 (mV (qa*y1)) ?_ (hr:=rU (((qa:Int)*(y1:Int))) kR (fr qa y1 oM)))));obtain ⟨ra,hra⟩:∃ x_,x_=u32-qa*y1:=⟨_,rfl⟩;rw[←hra] at hH0 hR0
  refine lV 66 (mV ra) ?_ (hr:=aU (aU (n:=IntKind.wrap .u64 ((u32:Int)-((qa*y1:Nat):Int))) kR (dV u32 (qa*y1) oM oM)) (by rw[hra]));refine lL hs [.m 16 66] (lN (CG.join (fun Γ w_=>∃ (q1:Nat) (h_:Hp),Γ=[(2,mV Y),(6,uV 0),(7,uV 0),(8,mV s),(9,mV y1),(10,mV y0),(11,mV u32),(13,mV u1),(14,mV u0),(15,mV q1)]∧SS w h w_ h_ [] [] []∧q1=(u32*4294967296+u1)/Y∧(u32*4294967296+u1)-q1*Y=(u32*4294967296+u1)%Y∧q1*Y≤u32*4294967296+u1) ?_ ?_))
  ·
   refine kZ ?_;refine bQ _ (CG.loop (fun μ_ Γ w_=>∃ (q:Nat) (r:Nat) (h_:Hp),μ_=q∧Γ=[(2,mV Y),(6,uV 0),(7,uV 0),(8,mV s),(9,mV y1),(10,mV y0),(11,mV u32),(13,mV u1),(14,mV u0),(15,mV q),(16,mV r)]∧SS w h w_ h_ [] [] []∧HalfQ Y y1 y0 u32 u1 q r∧r<4294967296) _ ⟨qa,ra,h5,rfl,rfl,hs.to _ _,hH0,oM⟩ ?_);rintro _ _ w6 ⟨q,r,h7,hm8,rfl,hs,hH,hr⟩;have hqb_:=hH.qb;refine cQ (aa hs [.m 67 15] ?_);cases hb9:(decide ((4294967296:Int)≤(q:Int)))
   ·
    have phb9:=oF hb9;refine lB 68 hb9 (lL hs [.m 69 68,.m 70 15,.m 71 10] (lV 72 (mV (q*y0)) ?_ (hr:=rU (((q:Int)*(y0:Int))) kR (fr q y0 (wA oM oM)))));refine lL hs [.m 73 16] (lV 74 (mV (4294967296*r)) ?_ (hr:=rU (((4294967296:Int)*(r:Int))) kR (fr 4294967296 r oM)));refine lL hs [.m 75 13] (lV 76 (mV ((4294967296*r)+u1)) ?_ (hr:=rU ((((4294967296*r:Nat):Int)+(u1:Int))) kR (e9 (4294967296*r) u1 oM)));cases za:(decide ((((4294967296*r)+u1:Nat):Int)<((q*y0:Nat):Int)))
    ·
     have zj:=oF za;refine lB 77 za (lL hs [.v 78 qF] (ah (CG.exit ?_)));intro a_ ka;exact ⟨_,⟨q,h7,rfl,hs.to _ _,(by first|exact hH.fin hYY oM|exact hH2.brk hYY oM oM (by have:=hH2.qb;omega))⟩,ka.to _ kR⟩
    have zj:=oT za;refine lB 77 za (lL hs [.v 78 qT] (ao (cK (kZ (aa hs [.m 79 15] ?_)))));have hq1:0<q:=by first|omega|exact ct (show 4294967296*r+u1<q*y0 by omega)
    have hH2:=hH.dec hYY oM huY (by first|exact .inl oM|exact .inr oM);refine lV 80 (mV (q-1)) ?_ (hr:=rU (((q:Int)-(1:Int))) kR (dV q 1 oM oM));refine lL hs [.m 15 80] (aG (lL hs [.m 81 16,.m 82 9] (lV 83 (mV (r+y1)) ?_ (hr:=rU (((r:Int)+(y1:Int))) kR (e9 r y1 oM)))));refine lL hs [.m 16 83] (aG (lL hs [.m 84 16] ?_));cases zb:(decide ((4294967296:Int)≤((r+y1:Nat):Int)))
    ·
     have zk:=oF zb;refine lB 85 zb (ah (CG.skip ?_));intro a_ ka;refine ⟨_,_,?_,⟨q-1,r+y1,h7,rfl,rfl,hs.to _ _,hH2,oM⟩,ka.to _ kR⟩
     omega
    have zk:=oT zb;refine lB 85 zb (ao (CG.exit ?_));intro a_ ka;exact ⟨_,⟨(q-1),h7,rfl,hs.to _ _,(by first|exact hH.fin hYY oM|exact hH2.brk hYY oM oM (by have:=hH2.qb;omega))⟩,ka.to _ kR⟩
   have phb9:=oT hb9;refine lB 68 hb9 (lL hs [.m 69 68] (lG 70 ?_));refine lG 71 (lG 72 (lG 73 (lG 74 (lG 75 (lG 76 (lG 77 (lL hs [.v 78 qT] (ao (cK (kZ (aa hs [.m 79 15] ?_)))))))))));have hq1:0<q:=by first|omega|exact ct (show 4294967296*r+u1<q*y0 by omega)
   have hH2:=hH.dec hYY oM huY (by first|exact .inl oM|exact .inr oM);refine lV 80 (mV (q-1)) ?_ (hr:=rU (((q:Int)-(1:Int))) kR (dV q 1 oM oM));refine lL hs [.m 15 80] (aG (lL hs [.m 81 16,.m 82 9] (lV 83 (mV (r+y1)) ?_ (hr:=rU (((r:Int)+(y1:Int))) kR (e9 r y1 oM)))));refine lL hs [.m 16 83] (aG (lL hs [.m 84 16] ?_));cases zc:(decide ((4294967296:Int)≤((r+y1:Nat):Int)))
   ·
    have zl:=oF zc;refine lB 85 zc (ah (CG.skip ?_));intro a_ ka;refine ⟨_,_,?_,⟨q-1,r+y1,h7,rfl,rfl,hs.to _ _,hH2,oM⟩,ka.to _ kR⟩
    omega
   have zl:=oT zc;refine lB 85 zc (ao (CG.exit ?_));intro a_ ka;exact ⟨_,⟨(q-1),h7,rfl,hs.to _ _,(by first|exact hH.fin hYY oM|exact hH2.brk hYY oM oM (by have:=hH2.qb;omega))⟩,ka.to _ kR⟩
  rintro _ _ ⟨q1,zq,rfl,hs,hF⟩;refine aE ?_;obtain ⟨hF1,hF2,hF3⟩:=hF;have hF4:=li (u1:=u1) huY oM;rw[←hF1] at hF4
  refine lL hs [.m 86 11] (lV 87 (mV ((u32*4294967296)%18446744073709551616)) ?_ (hr:=rU (((u32:Int)*(4294967296:Int))) kR (jG u32 4294967296)));refine lL hs [.m 88 13] (lV 89 (mV ((((u32*4294967296)%18446744073709551616)+u1)%18446744073709551616)) ?_ (hr:=rU (((((u32*4294967296)%18446744073709551616:Nat):Int)+(u1:Int))) kR (tk ((u32*4294967296)%18446744073709551616) u1)));refine lL hs [.m 90 15,.m 91 2] (lV 92 (mV ((q1*Y)%18446744073709551616)) ?_ (hr:=rU (((q1:Int)*(Y:Int))) kR (jG q1 Y)));obtain ⟨r1,hr1⟩:∃ x_,x_=(u32*4294967296+u1)%Y:=⟨_,rfl⟩;have hr1Y:r1<Y:=by rw[hr1];exact Nat.mod_lt _ oM
  refine lV 93 (mV r1) ?_ (hr:=aU (aU (n:=IntKind.wrap .u64 ((((((u32*4294967296)%18446744073709551616)+u1)%18446744073709551616:Nat):Int)-(((q1*Y)%18446744073709551616:Nat):Int))) kR (xg ((((u32*4294967296)%18446744073709551616)+u1)%18446744073709551616:Nat) ((q1*Y)%18446744073709551616) oM)) (by rw[j5 hF3 (hF2.trans hr1.symm) oM]));refine lL hs [.m 17 93] (aG (lL hs [.m 94 17,.m 95 9] ?_));have hK0:=jq (Y:=Y) (y1:=y1) (y0:=y0) (u:=r1) (u1:=u0) hYY oM oM oM hr1Y;have hS0:=kg (u:=r1) (y1:=y1) oM;have hL0:=Nat.div_mul_le_self r1 y1;obtain ⟨qb,hqb⟩:∃ x_,x_=r1/y1:=⟨_,rfl⟩;rw[←hqb] at hK0 hS0 hL0
  refine lV 96 (mV qb) ?_ (hr:=aU (aU (cZ (t:=22) (u:=22) (x:=.tmp 94) (y:=.tmp 95) (k:=.u64) (a:=(r1:Int)) (b:=(y1:Int)) kR kR kR oM _) (i7 r1 y1 oM)) (by rw[hqb]));refine lL hs [.m 18 96] (aG (lL hs [.m 97 17,.m 98 18,.m 99 9] (lV 100 (mV (qb*y1)) ?_ (hr:=rU (((qb:Int)*(y1:Int))) kR (fr qb y1 oM)))));obtain ⟨rb,hrb⟩:∃ x_,x_=r1-qb*y1:=⟨_,rfl⟩;rw[←hrb] at hK0 hS0
  refine lV 101 (mV rb) ?_ (hr:=aU (aU (n:=IntKind.wrap .u64 ((r1:Int)-((qb*y1:Nat):Int))) kR (dV r1 (qb*y1) oM oM)) (by rw[hrb]));refine lL hs [.m 16 101] (lN (CG.join (fun Γ w_=>∃ (p1:Nat) (h_:Hp),Γ=[(2,mV Y),(6,uV 0),(7,uV 0),(8,mV s),(14,mV u0),(15,mV q1),(17,mV r1),(18,mV p1)]∧SS w h w_ h_ [] [] []∧p1=(r1*4294967296+u0)/Y∧(r1*4294967296+u0)-p1*Y=(r1*4294967296+u0)%Y∧p1*Y≤r1*4294967296+u0) ?_ ?_))
  ·
   refine kZ ?_;refine bQ _ (CG.loop (fun μ_ Γ w_=>∃ (p:Nat) (t:Nat) (h_:Hp),μ_=p∧Γ=[(2,mV Y),(6,uV 0),(7,uV 0),(8,mV s),(9,mV y1),(10,mV y0),(14,mV u0),(15,mV q1),(17,mV r1),(18,mV p),(16,mV t)]∧SS w h w_ h_ [] [] []∧HalfQ Y y1 y0 r1 u0 p t∧t<4294967296) _ ⟨qb,rb,zq,rfl,rfl,hs.to _ _,hK0,oM⟩ ?_);rintro _ _ _ ⟨p,t,zi,hm24,rfl,hs,hK,ht⟩;have hpb_:=hK.qb;refine cQ (aa hs [.m 102 18] ?_);cases zd:(decide ((4294967296:Int)≤(p:Int)))
   ·
    have zm:=oF zd;refine lB 103 zd (lL hs [.m 104 103,.m 105 18,.m 106 10] (lV 107 (mV (p*y0)) ?_ (hr:=rU (((p:Int)*(y0:Int))) kR (fr p y0 (wA oM oM)))));refine lL hs [.m 108 16] (lV 109 (mV (4294967296*t)) ?_ (hr:=rU (((4294967296:Int)*(t:Int))) kR (fr 4294967296 t oM)));refine lL hs [.m 110 14] (lV 111 (mV ((4294967296*t)+u0)) ?_ (hr:=rU ((((4294967296*t:Nat):Int)+(u0:Int))) kR (e9 (4294967296*t) u0 oM)));cases ze:(decide ((((4294967296*t)+u0:Nat):Int)<((p*y0:Nat):Int)))
    ·
     have zn:=oF ze;refine lB 112 ze (lL hs [.v 113 qF] (ah (CG.exit ?_)));intro a_ ka;exact ⟨_,⟨p,zi,rfl,hs.to _ _,(by first|exact hK.fin hYY oM|exact hK2.brk hYY oM oM (by have:=hK2.qb;omega))⟩,ka.to _ kR⟩
    have zn:=oT ze;refine lB 112 ze (lL hs [.v 113 qT] (ao (cK (kZ (aa hs [.m 114 18] ?_)))));have hq2:0<p:=by first|omega|exact ct (show 4294967296*t+u0<p*y0 by omega)
    have hK2:=hK.dec hYY oM hr1Y (by first|exact .inl oM|exact .inr oM);refine lV 115 (mV (p-1)) ?_ (hr:=rU (((p:Int)-(1:Int))) kR (dV p 1 oM oM));refine lL hs [.m 18 115] (aG (lL hs [.m 116 16,.m 117 9] (lV 118 (mV (t+y1)) ?_ (hr:=rU (((t:Int)+(y1:Int))) kR (e9 t y1 oM)))));refine lL hs [.m 16 118] (aG (lL hs [.m 119 16] ?_));cases zf:(decide ((4294967296:Int)≤((t+y1:Nat):Int)))
    ·
     have zo:=oF zf;refine lB 120 zf (ah (CG.skip ?_));intro a_ ka;refine ⟨_,_,?_,⟨p-1,t+y1,zi,rfl,rfl,hs.to _ _,hK2,oM⟩,ka.to _ kR⟩
     omega
    have zo:=oT zf;refine lB 120 zf (ao (CG.exit ?_));intro a_ ka;exact ⟨_,⟨(p-1),zi,rfl,hs.to _ _,(by first|exact hK.fin hYY oM|exact hK2.brk hYY oM oM (by have:=hK2.qb;omega))⟩,ka.to _ kR⟩
   have zm:=oT zd;refine lB 103 zd (lL hs [.m 104 103] (lG 105 ?_));refine lG 106 (lG 107 (lG 108 (lG 109 (lG 110 (lG 111 (lG 112 (lL hs [.v 113 qT] (ao (cK (kZ (aa hs [.m 114 18] ?_)))))))))));have hq2:0<p:=by first|omega|exact ct (show 4294967296*t+u0<p*y0 by omega)
   have hK2:=hK.dec hYY oM hr1Y (by first|exact .inl oM|exact .inr oM);refine lV 115 (mV (p-1)) ?_ (hr:=rU (((p:Int)-(1:Int))) kR (dV p 1 oM oM));refine lL hs [.m 18 115] (aG (lL hs [.m 116 16,.m 117 9] (lV 118 (mV (t+y1)) ?_ (hr:=rU (((t:Int)+(y1:Int))) kR (e9 t y1 oM)))));refine lL hs [.m 16 118] (aG (lL hs [.m 119 16] ?_));cases zg:(decide ((4294967296:Int)≤((t+y1:Nat):Int)))
   ·
    have zp:=oF zg;refine lB 120 zg (ah (CG.skip ?_));intro a_ ka;refine ⟨_,_,?_,⟨p-1,t+y1,zi,rfl,rfl,hs.to _ _,hK2,oM⟩,ka.to _ kR⟩
    omega
   have zp:=oT zg;refine lB 120 zg (ao (CG.exit ?_));intro a_ ka;exact ⟨_,⟨(p-1),zi,rfl,hs.to _ _,(by first|exact hK.fin hYY oM|exact hK2.brk hYY oM oM (by have:=hK2.qb;omega))⟩,ka.to _ kR⟩
  rintro _ _ ⟨p1,_,rfl,hs,hE⟩;refine aE ?_;obtain ⟨hE1,hE2,hE3⟩:=hE;have hE4:=li (u1:=u0) hr1Y oM;rw[←hE1] at hE4
  refine lL hs [.m 121 15] (lV 122 (mV (q1*4294967296)) ?_ (hr:=rU (((q1:Int)*(4294967296:Int))) kR (fr q1 4294967296 oM)));refine lL hs [.m 123 18] (lV 124 (mV ((q1*4294967296)+p1)) ?_ (hr:=rU ((((q1*4294967296:Nat):Int)+(p1:Int))) kR (e9 (q1*4294967296) p1 oM)));refine lL hs [.m 125 17] (lV 126 (mV ((r1*4294967296)%18446744073709551616)) ?_ (hr:=rU (((r1:Int)*(4294967296:Int))) kR (jG r1 4294967296)));refine lL hs [.m 127 14] (lV 128 (mV ((((r1*4294967296)%18446744073709551616)+u0)%18446744073709551616)) ?_ (hr:=rU (((((r1*4294967296)%18446744073709551616:Nat):Int)+(u0:Int))) kR (tk ((r1*4294967296)%18446744073709551616) u0)));refine lL hs [.m 129 18,.m 130 2] (lV 131 (mV ((p1*Y)%18446744073709551616)) ?_ (hr:=rU (((p1:Int)*(Y:Int))) kR (jG p1 Y)));obtain ⟨R,hR⟩:∃ x_,x_=(r1*4294967296+u0)%Y:=⟨_,rfl⟩;have hRY:R<Y:=by rw[hR];exact Nat.mod_lt _ oM
  refine lV 132 (mV R) ?_ (hr:=aU (aU (n:=IntKind.wrap .u64 ((((((r1*4294967296)%18446744073709551616)+u0)%18446744073709551616:Nat):Int)-(((p1*Y)%18446744073709551616:Nat):Int))) kR (xg ((((r1*4294967296)%18446744073709551616)+u0)%18446744073709551616:Nat) ((p1*Y)%18446744073709551616) oM)) (by rw[j5 hE3 (hE2.trans hR.symm) oM]));refine lL hs [.m 133 8] (lV 134 (mV (R/2^s)) ?_ (hr:=eP (t:=22) (u:=148) (x:=.tmp 132) (y:=.tmp 133) (ky:=.u64) (a:=R) (n:=s) kR kR kR oM _));refine lL hs [.m 6 124,.m 7 134] (lN (kX ?_));obtain ⟨hB1,hB2⟩:=o6 (A:=hi*18446744073709551616+lo) (y:=y) hY hsh (show u10=u1*4294967296+u0 by omega) oM hF1 hr1 hE1 hR;exact hs.ret [] (.tuple #[mV ((q1*4294967296)+p1),mV (R/2^s)]) (⟨_,_,rfl,hB1,hB2,by omega⟩)
 have phb3:=eq_of_beq hb3;refine lB 27 hb3 (ao (cQ (cR 6 [] mixed hs av ?_)));refine eV 0 28 (mV lo) (eV 1 29 (mV y) (eV 2 30 (mV (lo/y)) ?_ (hv:=fun _=>aU (cZ (t:=22) (u:=22) (x:=.tmp 28) (y:=.tmp 29) (k:=.u64) (a:=(lo:Int)) (b:=(y:Int)) kR kR kR oM _) (i7 lo y oM))));refine eV 3 31 (mV lo) (eV 4 32 (mV y) (eV 5 33 (mV (lo%y)) ?_ (hv:=fun _=>aU (eE (t:=22) (u:=22) (x:=.tmp 31) (y:=.tmp 32) (k:=.u64) (a:=(lo:Int)) (b:=(y:Int)) kR kR kR oM _) (cJ lo y))));refine cC hs (fun _ _ hs=>tV 6 6 (mV (lo/y)) (tV 7 7 (mV (lo%y)) (tN (kX ?_))));have hdm:=Nat.div_add_mod lo y;have hml:=Nat.mod_lt lo (show 0<y by omega);have hdle:=Nat.div_le_self lo y;have hh0:hi=0:=by omega
 subst hh0;exact hs.ret [] (.tuple #[mV (lo/y),mV (lo%y)]) (⟨lo/y,lo%y,rfl,by rw[Nat.zero_mul,Nat.zero_add];exact hdm.symm,hml,by omega⟩)
def wc (h1:Hp)(v:Value)(m:Nat)(Q:List Nat→Prop):Prop:=∃ A c,∃ z:List Nat,v=.slice A z.length c∧z.length≤c∧z.length=m∧Wd z∧Q z∧SlO 1 aj 0 h1 A z
theorem Wd.set {l:List Nat}(h:Wd l)(k:Nat){x:Nat}(hx:x<18446744073709551616):Wd (l.set k x):=Dg.set h k hx
theorem Wd.rep (n:Nat):Wd (List.replicate n 0):=Dg.rep kD
theorem mc {l:List Nat}{k j x:Nat}(hk:k<l.length)(h:∀ i,j≤i→l.getD i 0=0)(hj:k<j):∀ i,j≤i→(l.set k x).getD i 0=0:=fun i hi=>by rw[bq hk,if_neg oM];exact h i hi
theorem xb (A:Option Addr)(c:Nat)(x:List Nat)(D:Option Addr)(d:Nat)(y:List Nat)(hx:Wd x)(hy:Wd y)(hlx:x.length≤1000000000)(hly:y.length≤1000000000)(w:World)(h:Hp)(g:G w h)(hA:SlO 1 aj 0 h A x)(hD:SlO 1 aj 0 h D y):CR 127 #[.slice A x.length c,.slice D y.length d] w h (fun v h1=>wc h1 v (x.length+y.length) (fun z=>aA z=aA x*aA y)):=by
 have hs:=(((sS g).aS hA).aS hD);refine go Tryz.func127 [(0,qS A x.length c),(1,qS D y.length d)] rfl (aa hs [.v 4 (sZ)] (aG (lL hs [.m 15 0,.v 16 (nV x.length),.m 17 1,.v 18 (nV y.length)] (bH 19 ((x.length:Nat)+(y.length:Nat)) (x.length+y.length) ?_))));refine lK 20 22 (x.length+y.length) 1 8 (uV 0) aj 0 hs (fun b1 w2 h3 hs=>?_);have hl4:(List.replicate (x.length+y.length) 0).length=(x.length+y.length):=by simp
 refine lL hs [.m 5 20] (af (aa hs [.m 21 0,.v 22 (nV x.length),.v 23 (iV 0)] (bn ?_)));refine bQ _ (CG.loop (fun μ_ Γ w_=>∃ (i:Nat) (l:List Nat) (h_:Hp),μ_=x.length-i∧Γ=[(1,qS D y.length d),(4,sZ),(5,qS (sB b1) (x.length+y.length) (x.length+y.length)),(21,qS A x.length c),(22,nV x.length),(23,nV i)]∧SS w h w_ h_ [⟨b1,22,(l).flatMap aj⟩] [] [fun h_=>SlO 1 aj 0 h_ D y,fun h_=>SlO 1 aj 0 h_ A x]∧i≤x.length∧l.length=x.length+y.length∧Wd l∧aA l=ak 18446744073709551616 (x.take i)*aA y∧(∀ k,i+y.length≤k→l.getD k 0=0)) _ ⟨0,List.replicate (x.length+y.length) 0,h3,rfl,rfl,hs.to _ _,Nat.zero_le _,hl4,Wd.rep _,(by show ak _ _=_;rw[dz];simp[ak]),fun k _=>ej⟩ ?_);rintro _ _ w5 ⟨i,l,h6,hm7,rfl,hs,hi,hll,hW,hv,hz⟩;refine aE ?_;cases hb8:(decide ((i:Int)<(x.length:Int)))
 ·
  have phb8:=oF hb8;refine lB 24 hb8 (af (cw (CG.exit ?_)))
  show CG _ _ _ _ _ _ _ _
  refine aa hs [.m 79 5,.m 4 79] (lN (kX ?_));have hix:i=x.length:=by omega
  rw[hix,List.take_length] at hv
  obtain ⟨h9,hs,sg10,lo11,bc12⟩:=hs.pub 0;replace hs:=(hs.to [] []).aS (SlO.of_flat (sz:=1) (f:=aj) (d:=0) (b:=b1) (o:=0) (l:=l) (fun _=>rfl) sg10);exact hs.ret [] (qS (sB b1) (x.length+y.length) (x.length+y.length)) (⟨sB b1,_,l,by rw[hll],by omega,hll,hW,hv,hs.f.1⟩)
 have phb8:=oT hb8;refine lB 24 hb8 (af (ce (cK (cQ (kZ (aa hs [.m 25 23] (lX 26 A x.length c 1 (i:Nat) i ((hs.f.2.1).ok oM) ?_)))))));refine lH 27 (mV (x.getD i 0)) hs ((hs.f.2.1).el i oM) (lL hs [.m 6 25,.m 7 27] (aG (lL hs [.v 8 (uV 0)] (af (aa hs [.m 28 1,.v 29 (nV y.length),.v 30 (iV 0)] (bn ?_))))));refine bQ _ (CG.loop (fun μ_ Γ w_=>∃ (j:Nat) (l2:List Nat) (cy:Nat) (h_:Hp),μ_=y.length-j∧Γ=[(1,qS D y.length d),(4,sZ),(5,qS (sB b1) (x.length+y.length) (x.length+y.length)),(21,qS A x.length c),(22,nV x.length),(23,nV i),(6,nV i),(7,mV (x.getD i 0)),(28,qS D y.length d),(29,nV y.length),(30,nV j),(8,mV cy)]∧SS w h w_ h_ [⟨b1,22,(l2).flatMap aj⟩] [] [fun h_=>SlO 1 aj 0 h_ D y,fun h_=>SlO 1 aj 0 h_ A x]∧j≤y.length∧l2.length=x.length+y.length∧Wd l2∧cy<18446744073709551616∧ak 18446744073709551616 l2+18446744073709551616^(i+j)*cy=aA l+18446744073709551616^i*(x.getD i 0*ak 18446744073709551616 (y.take j))∧(∀ k,i+y.length≤k→l2.getD k 0=0)) _ ⟨0,l,0,h6,rfl,rfl,hs.to _ _,Nat.zero_le _,hll,hW,by omega,(by show ak _ l+_=ak _ l+_;simp[ak]),hz⟩ ?_);rintro _ _ _ ⟨j,l2,cy,zi,hm16,rfl,hs,hj,hll2,hW2,hc,inv,hz2⟩;have hlk:=hW2.get (i+j);refine aE ?_;cases zc:(decide ((j:Int)<(y.length:Int)))
 ·
  have zd:=oF zc;refine lB 31 zc (af (cw (CG.exit ?_)))
  show CG _ _ _ _ _ _ _ _
  refine kQ (lL hs [.m 71 5,.m 72 6,.m 73 1,.v 74 (nV y.length)] (bH 75 ((i:Nat)+(y.length:Nat)) (i+y.length) ?_));refine lL hs [.m 76 8] (lX 77 (sB b1) (x.length+y.length) (x.length+y.length) 1 (i+y.length:Nat) (i+y.length) rfl ?_);refine lW 0 l2 aj 1 (i+y.length) cy hs oM (fun _ hs=>?_);have zf:((l2).set (i+y.length) cy).length=(x.length+y.length):=by rw[List.length_set];exact hll2
  replace hs:=hs.to [⟨b1,22,((l2).set (i+y.length) cy).flatMap aj⟩] [];refine lN (kQ (bH 78 ((i:Nat)+1) (i+1) ?_));refine lL hs [.m 23 78] (lD ?_);intro a_ ka;refine ⟨_,_,?_,⟨i+1,(l2).set (i+y.length) cy,zi,rfl,rfl,hs.to _ _,oM,zf,(hW2.set _ hc),(by have hjy:j=y.length:=oM;rw[hjy] at inv;exact (uH oM inv (hz2 _ oM)).trans (tQ hv)),(mc oM (fun k hk=>hz2 k oM) oM)⟩,ka.to _ kR⟩
  omega
 have zd:=oT zc;refine lB 31 zc (af (ce (cK (cQ (kZ (aa hs [.m 32 30] (lX 33 D y.length d 1 (j:Nat) j ((hs.f.1).ok oM) ?_)))))));refine lH 34 (mV (y.getD j 0)) hs ((hs.f.1).el j oM) (lL hs [.m 9 32,.m 10 34] (aG (lL hs [.m 36 7,.m 37 10] (lC 38 hs (ju (x.getD i 0) (y.getD j 0) wM wM _ _ hs.g) ?_))));rintro _ _ zj hs ⟨s25,ze,rfl,he27,hl28,hm29,hn30⟩;have hxhe27:=fF (a:=(x.getD i 0)) (b:=(y.getD j 0)) wM wM;refine lL hs [.m 35 38,.v 39 (mV s25),.v 40 (mV ze),.m 11 39,.m 12 40] (aG (lL hs [.m 42 12,.m 43 5,.m 44 6,.m 45 9] (bH 46 ((i:Nat)+(j:Nat)) (i+j) ?_)));refine lX 47 (sB b1) (x.length+y.length) (x.length+y.length) 1 (i+j:Nat) (i+j) rfl (lQ 48 0 l2 aj 1 0 (i+j) (mV ((l2).getD (i+j) 0)) hs oM ?_);obtain ⟨s33,za,he35,hl36,hm37,hr38⟩:=cf ze ((l2).getD (i+j) 0) 0 wM wM oM;refine lV 49 (.tuple #[mV s33,mV za]) ?_ (hr:=ck kR (hr38 _));refine lL hs [.m 41 49,.v 50 (mV s33),.v 51 (mV za),.m 13 50,.m 14 51] (aG (lL hs [.m 52 11,.m 53 14] (lV 54 (mV (s25+za)) ?_ (hr:=rU (((s25:Int)+(za:Int))) kR (e9 s25 za oM)))));refine lL hs [.m 11 54] (lN (bQ [(1,qS D y.length d),(4,sZ),(5,qS (sB b1) (x.length+y.length) (x.length+y.length)),(21,qS A x.length c),(22,nV x.length),(23,nV i),(6,nV i),(7,mV (x.getD i 0)),(28,qS D y.length d),(29,nV y.length),(30,nV j),(8,mV cy),(9,nV j),(11,mV (s25+za)),(13,mV s33),(14,mV za)] ?_));refine aa hs [.m 56 13,.m 57 8] ?_;obtain ⟨s39,zb,he41,hl42,hm43,hr44⟩:=cf s33 cy 0 wM wM oM;refine lV 58 (.tuple #[mV s39,mV zb]) ?_ (hr:=ck kR (hr44 _));refine lL hs [.m 55 58,.v 59 (mV s39),.v 60 (mV zb),.m 13 59,.m 14 60] (lN (kQ (lL hs [.m 61 5,.m 62 6,.m 63 9] (bH 64 ((i:Nat)+(j:Nat)) (i+j) ?_))));refine lL hs [.m 65 13,.m 66 11,.m 67 14] (lV 68 (mV ((s25+za)+zb)) ?_ (hr:=rU ((((s25+za:Nat):Int)+(zb:Int))) kR (e9 (s25+za) zb oM)));refine lX 69 (sB b1) (x.length+y.length) (x.length+y.length) 1 (i+j:Nat) (i+j) rfl (lW 0 l2 aj 1 (i+j) s39 hs oM (fun _ hs=>?_));have zg:((l2).set (i+j) s39).length=(x.length+y.length):=by rw[List.length_set];exact hll2
 replace hs:=hs.to [⟨b1,22,((l2).set (i+j) s39).flatMap aj⟩] [];refine lL hs [.m 8 68] (lN (kQ (bH 70 ((j:Nat)+1) (j+1) ?_)));refine lL hs [.m 30 70] (lD ?_);intro a_ ka;refine ⟨_,_,?_,⟨j+1,(l2).set (i+j) s39,((s25+za)+zb),zj,rfl,rfl,hs.to _ _,oM,zg,(hW2.set _ oM),oM,(mC oM inv oM),(mc oM hz2 oM)⟩,ka.to _ kR⟩
 omega
theorem vx {x:List Nat}(hx:Wd x){n:Nat}(h:x.length≤n/64):aA x<2^n:=by
 have h1:=bM hx;have h2:(18446744073709551616:Nat)^x.length=2^(64*x.length):=by rw[Nat.pow_mul]
 have h3:(2:Nat)^(64*x.length)≤2^n:=Nat.pow_le_pow_right oM oM
 show ak _ x<_
 omega
theorem ki {l:List Nat}{k x:Nat}(hk:k<l.length)(h:∀ i,k≤i→l.getD i 0=0):∀ i,k+1≤i→(l.set k x).getD i 0=0:=fun i hi=>by rw[bq hk,if_neg oM];exact h i oM
theorem sL (A:Option Addr)(c:Nat)(x:List Nat)(hx:Wd x)(hlx:x.length≤1000000000)(n:Nat)(hn:n≤1000000000)(w:World)(h:Hp)(g:G w h)(hA:SlO 1 aj 0 h A x):CR 179 #[.slice A x.length c,nV n] w h (fun v h1=>wc h1 v (x.length+n/64+1) (fun z=>aA z=aA x*2^n)):=by
 have hs:=((sS g).aS hA);refine go Tryz.func179 [(0,qS A x.length c),(1,nV n)] rfl (aa hs [.v 4 (sZ)] (aG (lL hs [.m 10 1] (lV 11 (nV (n/64)) ?_ (hr:=aU (cZ (t:=3) (u:=3) (x:=.tmp 10) (y:=.const (iV 64)) (k:=.i64) (a:=(n:Int)) (b:=(64:Int)) kR kR kR oM _) (cX n 64 oM))))));refine lL hs [.m 12 1] (lV 13 (nV (n%64)) ?_ (hr:=aU (eE (t:=3) (u:=3) (x:=.tmp 12) (y:=.const (iV 64)) (k:=.i64) (a:=(n:Int)) (b:=(64:Int)) kR kR kR oM _) (cJ n 64)));refine lV 14 (mV (n%64)) ?_ (hr:=rU (((n%64:Nat):Int)) kR (bx oM oM));refine lL hs [.m 5 11,.m 6 14] (aG (lL hs [.m 15 0,.v 16 (nV x.length),.m 17 5] (bH 18 ((x.length:Nat)+(n/64:Nat)) (x.length+(n/64)) ?_)));refine bH 19 ((x.length+(n/64):Nat)+1) ((x.length+(n/64))+1) (lK 20 22 ((x.length+(n/64))+1:Nat) 1 8 (uV 0) aj 0 hs (fun b1 w2 h3 hs=>?_));have hl4:(List.replicate ((x.length+(n/64))+1:Nat) 0).length=((x.length+(n/64))+1:Nat):=by simp
 refine lL hs [.m 7 20] (af (aa hs [.m 21 0,.v 22 (nV x.length),.v 23 (iV 0)] (bn ?_)));refine bQ _ (CG.loop (fun μ_ Γ w_=>∃ (i:Nat) (l:List Nat) (h_:Hp),μ_=x.length-i∧Γ=[(4,sZ),(5,nV (n/64)),(6,mV (n%64)),(7,qS (sB b1) ((x.length+(n/64))+1:Nat) ((x.length+(n/64))+1:Nat)),(21,qS A x.length c),(22,nV x.length),(23,nV i)]∧SS w h w_ h_ [⟨b1,22,(l).flatMap aj⟩] [] [fun h_=>SlO 1 aj 0 h_ A x]∧i≤x.length∧l.length=x.length+n/64+1∧Wd l∧aA l=2^(n%64)*(18446744073709551616^(n/64)*ak 18446744073709551616 (x.take i))∧l.getD (i+n/64) 0<2^(n%64)∧(∀ k,i+n/64+1≤k→l.getD k 0=0)) _ ⟨0,List.replicate ((x.length+(n/64))+1:Nat) 0,h3,rfl,rfl,hs.to _ _,Nat.zero_le _,hl4,Wd.rep _,(by show ak _ _=_;rw[dz];simp[ak]),(by rw[ej];exact Nat.two_pow_pos _),fun k _=>ej⟩ ?_);rintro _ _ w5 ⟨i,l,h6,hm7,rfl,hs,hi,hll,hW,hv,ho,hz⟩;refine aE ?_;cases hb8:(decide ((i:Int)<(x.length:Int)))
 ·
  have phb8:=oF hb8;refine lB 24 hb8 (af (cw (CG.exit ?_)))
  show CG _ _ _ _ _ _ _ _
  refine aa hs [.m 50 7,.m 4 50] (lN (kX ?_));have hix:i=x.length:=by omega
  rw[hix,List.take_length] at hv
  obtain ⟨h9,hs,sg10,lo11,bc12⟩:=hs.pub 0;replace hs:=(hs.to [] []).aS (SlO.of_flat (sz:=1) (f:=aj) (d:=0) (b:=b1) (o:=0) (l:=l) (fun _=>rfl) sg10);exact hs.ret [] (qS (sB b1) ((x.length+(n/64))+1:Nat) ((x.length+(n/64))+1:Nat)) (⟨sB b1,_,l,by rw[hll],by omega,hll,hW,(by show aA l=_;rw[hv,r8 n];show _*(_*aA x)=_;ac_rfl),hs.f.1⟩)
 have phb8:=oT hb8;refine lB 24 hb8 (af (ce (cK (cQ (kZ (aa hs [.m 25 23] (lX 26 A x.length c 1 (i:Nat) i ((hs.f.1).ok oM) ?_)))))));refine lH 27 (mV (x.getD i 0)) hs ((hs.f.1).el i oM) (lL hs [.m 8 25,.m 9 27] (aG (lL hs [.m 28 7,.m 29 8,.m 30 5] (bH 31 ((i:Nat)+(n/64:Nat)) (i+(n/64)) ?_))));refine lX 32 (sB b1) ((x.length+(n/64))+1:Nat) ((x.length+(n/64))+1:Nat) 1 (i+(n/64):Nat) (i+(n/64)) rfl (lQ 33 0 l aj 1 0 (i+(n/64)) (mV ((l).getD (i+(n/64)) 0)) hs oM (lL hs [.m 34 9,.m 35 6] (lV 36 (mV ((x.getD i 0)*2^(n%64)%18446744073709551616)) ?_ (hr:=fx (t:=22) (u:=148) (x:=.tmp 34) (y:=.tmp 35) (ky:=.u64) (a:=(x.getD i 0)) (n:=(n%64)) kR kR kR _))));have hxi:=hx.get i;obtain ⟨hS1,hS2,hS3,hS4⟩:=qV (x:=x.getD i 0) (p:=n%64) (o:=l.getD (i+n/64) 0) oM hxi ho;have hlg:=hW.get (i+n/64);refine lV 37 (mV (l.getD (i+n/64) 0+x.getD i 0*2^(n%64)%18446744073709551616)) ?_ (hr:=aU (gT (t:=22) (u:=22) (x:=.tmp 33) (y:=.tmp 36) (a:=((l).getD (i+(n/64)) 0:Nat)) (b:=((x.getD i 0)*2^(n%64)%18446744073709551616)) kR kR kR oM oM _) (by rw[hS1]));refine lX 38 (sB b1) ((x.length+(n/64))+1:Nat) ((x.length+(n/64))+1:Nat) 1 (i+(n/64):Nat) (i+(n/64)) rfl (lW 0 l aj 1 (i+(n/64)) (l.getD (i+n/64) 0+x.getD i 0*2^(n%64)%18446744073709551616) hs oM (fun _ hs=>?_));have za:((l).set (i+(n/64)) (l.getD (i+n/64) 0+x.getD i 0*2^(n%64)%18446744073709551616)).length=((x.length+(n/64))+1:Nat):=by rw[List.length_set];exact hll
 replace hs:=hs.to [⟨b1,22,((l).set (i+(n/64)) (l.getD (i+n/64) 0+x.getD i 0*2^(n%64)%18446744073709551616)).flatMap aj⟩] [];refine lN (kQ (lL hs [.m 39 7,.m 40 8,.m 41 5] (bH 42 ((i:Nat)+(n/64:Nat)) (i+(n/64)) ?_)));refine bH 43 ((i+(n/64):Nat)+1) ((i+(n/64))+1) (lL hs [.m 44 9,.m 45 6] (lV 46 (mV (64-(n%64))) ?_ (hr:=rU (((64:Int)-((n%64:Nat):Int))) kR (dV 64 (n%64) oM oM))));refine lV 47 (mV ((x.getD i 0)/2^(64-(n%64)))) ?_ (hr:=eP (t:=22) (u:=148) (x:=.tmp 44) (y:=.tmp 46) (ky:=.u64) (a:=(x.getD i 0)) (n:=(64-(n%64))) kR kR kR oM _);refine lX 48 (sB b1) ((x.length+(n/64))+1:Nat) ((x.length+(n/64))+1:Nat) 1 ((i+(n/64))+1:Nat) ((i+(n/64))+1:Nat) rfl (lW 0 ((l).set (i+(n/64)) (l.getD (i+n/64) 0+x.getD i 0*2^(n%64)%18446744073709551616)) aj 1 ((i+(n/64))+1:Nat) ((x.getD i 0)/2^(64-(n%64)):Nat) hs oM (fun _ hs=>?_));have zb:(((l).set (i+(n/64)) (l.getD (i+n/64) 0+x.getD i 0*2^(n%64)%18446744073709551616)).set ((i+(n/64))+1:Nat) ((x.getD i 0)/2^(64-(n%64)):Nat)).length=((x.length+(n/64))+1:Nat):=by rw[List.length_set];exact za
 replace hs:=hs.to [⟨b1,22,(((l).set (i+(n/64)) (l.getD (i+n/64) 0+x.getD i 0*2^(n%64)%18446744073709551616)).set ((i+(n/64))+1:Nat) ((x.getD i 0)/2^(64-(n%64)):Nat)).flatMap aj⟩] [];refine lN (kQ (bH 49 ((i:Nat)+1) (i+1) ?_));refine lL hs [.m 23 49] (lD ?_);intro a_ ka;refine ⟨_,_,?_,⟨i+1,((l).set (i+(n/64)) (l.getD (i+n/64) 0+x.getD i 0*2^(n%64)%18446744073709551616)).set ((i+(n/64))+1:Nat) ((x.getD i 0)/2^(64-(n%64)):Nat),h6,rfl,rfl,hs.to _ _,oM,zb,((hW.set _ hS2).set _ (by have:=Nat.div_le_self (x.getD i 0) (2^(64-n%64));omega)),(qR oM hv (hz _ oM) hS3 rfl rfl),(by rw[show i+1+n/64=i+n/64+1 by omega,bq (by rw[List.length_set];omega),if_pos rfl];exact hS4),(fun k hk=>by rw[bq (by rw[List.length_set];omega),if_neg oM,bq oM,if_neg oM];exact hz k oM)⟩,ka.to _ kR⟩
 omega
theorem Cr (A:Option Addr)(c:Nat)(x:List Nat)(hx:Wd x)(hlx:x.length≤1000000000)(n:Nat)(hn:n≤1000000000)(w:World)(h:Hp)(g:G w h)(hA:SlO 1 aj 0 h A x):CR 181 #[.slice A x.length c,nV n] w h (fun v h1=>wc h1 v (x.length-n/64) (fun z=>aA z=aA x/2^n)):=by
 have hs:=((sS g).aS hA);refine go Tryz.func181 [(0,qS A x.length c),(1,nV n)] rfl (aa hs [.v 4 (sZ)] (aG (lL hs [.m 9 1] (lV 10 (nV (n/64)) ?_ (hr:=aU (cZ (t:=3) (u:=3) (x:=.tmp 9) (y:=.const (iV 64)) (k:=.i64) (a:=(n:Int)) (b:=(64:Int)) kR kR kR oM _) (cX n 64 oM))))));refine lL hs [.m 11 1] (lV 12 (nV (n%64)) ?_ (hr:=aU (eE (t:=3) (u:=3) (x:=.tmp 11) (y:=.const (iV 64)) (k:=.i64) (a:=(n:Int)) (b:=(64:Int)) kR kR kR oM _) (cJ n 64)));refine lV 13 (mV (n%64)) ?_ (hr:=rU (((n%64:Nat):Int)) kR (bx oM oM));refine lL hs [.m 5 10,.m 6 13] (af (aa hs [.m 14 5,.m 15 0,.v 16 (nV x.length)] ?_));cases hb1:(decide ((x.length:Int)≤((n/64:Nat):Int)))
 ·
  have phb1:=oF hb1;refine lB 17 hb1 (ah (cK (aa hs [.m 18 0,.v 19 (nV x.length),.m 20 5] (bH 21 ((x.length:Nat)-(n/64:Nat)) (x.length-(n/64)) ?_))));refine lK 22 22 (x.length-(n/64)) 1 8 (uV 0) aj 0 hs (fun b2 w3 h4 hs=>?_);have hl5:(List.replicate (x.length-(n/64)) 0).length=(x.length-(n/64)):=by simp
  refine lL hs [.m 7 22] (af (aa hs [.m 23 7,.v 24 (nV (x.length-(n/64))),.v 25 (iV 0)] (bn ?_)));refine bQ _ (CG.loop (fun μ_ Γ w_=>∃ (i:Nat) (l:List Nat) (h_:Hp),μ_=x.length-n/64-i∧Γ=[(0,qS A x.length c),(4,sZ),(5,nV (n/64)),(6,mV (n%64)),(7,qS (sB b2) (x.length-(n/64)) (x.length-(n/64))),(24,nV (x.length-(n/64))),(25,nV i)]∧SS w h w_ h_ [⟨b2,22,(l).flatMap aj⟩] [] [fun h_=>SlO 1 aj 0 h_ A x]∧i≤x.length-n/64∧l.length=x.length-n/64∧Wd l∧2^(n%64)*ak 18446744073709551616 l+(x.drop (n/64)).getD 0 0%2^(n%64)=ak 18446744073709551616 ((x.drop (n/64)).take i)+18446744073709551616^i*((x.drop (n/64)).getD i 0%2^(n%64))∧(∀ k,i≤k→l.getD k 0=0)) _ ⟨0,List.replicate (x.length-(n/64)) 0,h4,rfl,rfl,hs.to _ _,Nat.zero_le _,hl5,Wd.rep _,(by rw[dz];simp[ak]),fun k _=>ej⟩ ?_);rintro _ _ w6 ⟨i,l,h7,hm8,rfl,hs,hi,hll,hW,inv,hz⟩;refine aE ?_;cases hb9:(decide ((i:Int)<(((x.length-(n/64)):Nat):Int)))
  ·
   have phb9:=oF hb9;refine lB 26 hb9 (af (cw (CG.exit ?_)))
   show CG _ _ _ _ _ _ _ _
   refine aa hs [.m 63 7,.m 4 63] (lN (kX ?_));have hix:i=x.length-n/64:=by omega
   have hE:=wl (W:=x.drop (n/64)) (m:=i) (by rw[List.length_drop];omega) inv;rw[kf hx oM,Nat.div_div_eq_div_mul,←r8 n] at hE
   obtain ⟨_,hs,sg11,lo12,bc13⟩:=hs.pub 0;replace hs:=(hs.to [] []).aS (SlO.of_flat (sz:=1) (f:=aj) (d:=0) (b:=b2) (o:=0) (l:=l) (fun _=>rfl) sg11);exact hs.ret [] (qS (sB b2) (x.length-(n/64)) (x.length-(n/64))) (⟨sB b2,_,l,by rw[hll],by omega,by omega,hW,hE,hs.f.1⟩)
  have phb9:=oT hb9;refine lB 26 hb9 (af (ce (cK (cQ (kZ (aa hs [.m 27 25,.m 8 27] (aG (lL hs [.m 28 7,.m 29 8,.m 30 0,.m 31 8,.m 32 5] (bH 33 ((i:Nat)+(n/64:Nat)) (i+(n/64)) ?_)))))))));refine lX 34 A x.length c 1 (i+(n/64):Nat) (i+(n/64)) ((hs.f.1).ok oM) (lH 35 (mV (x.getD (i+(n/64)) 0)) hs ((hs.f.1).el (i+(n/64)) oM) (lL hs [.m 36 6] ?_));have hxi:=hx.get (i+n/64);refine lV 37 (mV ((x.getD (i+(n/64)) 0:Nat)/2^(n%64))) ?_ (hr:=eP (t:=22) (u:=148) (x:=.tmp 35) (y:=.tmp 36) (ky:=.u64) (a:=(x.getD (i+(n/64)) 0:Nat)) (n:=(n%64)) kR kR kR oM _);refine lX 38 (sB b2) (x.length-(n/64)) (x.length-(n/64)) 1 (i:Nat) i rfl (lW 0 l aj 1 i ((x.getD (i+(n/64)) 0:Nat)/2^(n%64):Nat) hs oM (fun _ hs=>?_));have zb:((l).set i ((x.getD (i+(n/64)) 0:Nat)/2^(n%64):Nat)).length=(x.length-(n/64)):=by rw[List.length_set];exact hll
  replace hs:=hs.to [⟨b2,22,((l).set i ((x.getD (i+(n/64)) 0:Nat)/2^(n%64):Nat)).flatMap aj⟩] [];refine aG (lL hs [.m 39 8,.m 40 5] (bH 41 ((i:Nat)+(n/64:Nat)) (i+(n/64)) ?_));refine bH 42 ((i+(n/64):Nat)+1) ((i+(n/64))+1) (lL hs [.m 43 0,.v 44 (nV x.length)] ?_);cases za:(decide ((((i+(n/64))+1:Nat):Int)<(x.length:Int)))
  ·
   have zc:=oF za;refine lB 45 za (ah (cK (kQ (bH 62 ((i:Nat)+1) (i+1) ?_))));refine lL hs [.m 25 62] (lD ?_);intro a_ ka;refine ⟨_,_,?_,⟨i+1,(l).set i ((x.getD (i+(n/64)) 0:Nat)/2^(n%64):Nat),h7,rfl,rfl,hs.to _ _,oM,zb,(hW.set _ (by have:=Nat.div_le_self (x.getD (i+n/64) 0) (2^(n%64));omega)),(mH oM inv (hz _ (nR _)) (by rw[bp,bp,show n/64+i=i+n/64 by omega,bC (show x.length≤n/64+(i+1) by omega),Nat.zero_mod,Nat.mul_zero,Nat.add_zero];exact Nat.div_add_mod _ _)),(ki oM hz)⟩,ka.to _ kR⟩
   omega
  have zc:=oT za;refine lB 45 za (ao (cR 15 [] mixed hs av ?_));refine eV 0 46 (qS (sB b2) (x.length-(n/64)) (x.length-(n/64))) (eV 1 47 (nV i) (eX 2 48 (sB b2) (x.length-(n/64)) (x.length-(n/64)) 1 (i:Nat) i rfl (eQ 3 49 0 ((l).set i ((x.getD (i+(n/64)) 0:Nat)/2^(n%64):Nat)) aj 1 0 i (mV (((l).set i ((x.getD (i+(n/64)) 0:Nat)/2^(n%64):Nat)).getD i 0)) hs oM (eV 4 50 (qS A x.length c) (eV 5 51 (nV i) (eV 6 52 (nV (n/64)) (jO 7 53 ((i:Nat)+(n/64:Nat)) (i+(n/64)) (jO 8 54 ((i+(n/64):Nat)+1) ((i+(n/64))+1) (eX 9 55 A x.length c 1 ((i+(n/64))+1:Nat) ((i+(n/64))+1:Nat) ((hs.f.1).ok oM) (eH 10 56 (mV (x.getD ((i+(n/64))+1:Nat) 0)) hs ((hs.f.1).el ((i+(n/64))+1:Nat) oM) (eV 11 57 (mV (n%64)) (eV 12 58 (mV (64-(n%64))) ?_ (hv:=fun _=>rU (((64:Int)-((n%64:Nat):Int))) kR (dV 64 (n%64) oM oM))))))))))))));refine eV 13 59 (mV ((x.getD ((i+(n/64))+1:Nat) 0:Nat)*2^(64-(n%64))%18446744073709551616)) ?_ (hv:=fun _=>fx (t:=22) (u:=148) (x:=.tmp 56) (y:=.tmp 58) (ky:=.u64) (a:=(x.getD ((i+(n/64))+1:Nat) 0:Nat)) (n:=(64-(n%64))) kR kR kR _);obtain ⟨hS1,hS2,hS3⟩:=lJ (x:=x.getD (i+n/64) 0) (y:=x.getD (i+n/64+1) 0) (p:=n%64) oM hxi;have hdv:=Nat.div_le_self (x.getD (i+n/64) 0) (2^(n%64));have hgs:=bq (l:=l) (k:=i) (j:=i) (x:=x.getD (i+n/64) 0/2^(n%64)) oM;rw[if_pos rfl] at hgs
  refine eV 14 60 (mV (x.getD (i+n/64) 0/2^(n%64)+x.getD (i+n/64+1) 0*2^(64-n%64)%18446744073709551616)) ?_ (hv:=fun _=>aU (gT (t:=22) (u:=22) (x:=.tmp 49) (y:=.tmp 59) (a:=(((l).set i ((x.getD (i+(n/64)) 0:Nat)/2^(n%64):Nat)).getD i 0:Nat)) (b:=((x.getD ((i+(n/64))+1:Nat) 0:Nat)*2^(64-(n%64))%18446744073709551616:Nat)) kR kR kR oM oM _) (by rw[hgs,hS1]));refine cC hs (fun _ ze hs=>tX 15 61 (sB b2) (x.length-(n/64)) (x.length-(n/64)) 1 (i:Nat) i rfl (tW 16 0 ((l).set i ((x.getD (i+(n/64)) 0:Nat)/2^(n%64):Nat)) aj 1 i (x.getD (i+n/64) 0/2^(n%64)+x.getD (i+n/64+1) 0*2^(64-n%64)%18446744073709551616) hs oM (fun _ hs=>?_)));have zd:(((l).set i ((x.getD (i+(n/64)) 0:Nat)/2^(n%64):Nat)).set i (x.getD (i+n/64) 0/2^(n%64)+x.getD (i+n/64+1) 0*2^(64-n%64)%18446744073709551616)).length=(x.length-(n/64)):=by rw[List.length_set];exact zb
  replace hs:=hs.to [⟨b2,22,(((l).set i ((x.getD (i+(n/64)) 0:Nat)/2^(n%64):Nat)).set i (x.getD (i+n/64) 0/2^(n%64)+x.getD (i+n/64+1) 0*2^(64-n%64)%18446744073709551616)).flatMap aj⟩] [];refine tN (bQ [(0,qS A x.length c),(4,sZ),(5,nV (n/64)),(6,mV (n%64)),(7,qS (sB b2) (x.length-(n/64)) (x.length-(n/64))),(24,nV (x.length-(n/64))),(25,nV i)] ?_);refine kQ (bH 62 ((i:Nat)+1) (i+1) ?_);refine lL hs [.m 25 62] (lD ?_);intro a_ ka;refine ⟨_,_,?_,⟨i+1,((l).set i ((x.getD (i+(n/64)) 0:Nat)/2^(n%64):Nat)).set i (x.getD (i+n/64) 0/2^(n%64)+x.getD (i+n/64+1) 0*2^(64-n%64)%18446744073709551616),ze,rfl,rfl,hs.to _ _,oM,zd,((hW.set _ oM).set _ hS2),(by rw[List.set_set];exact mH oM inv (hz _ (nR _)) (by rw[bp,bp,show n/64+i=i+n/64 by omega,show n/64+(i+1)=i+n/64+1 by omega];exact hS3)),(by rw[List.set_set];exact ki oM hz)⟩,ka.to _ kR⟩
  omega
 have phb1:=oT hb1;exact lB 17 hb1 (ao (aa hs [.v 4 (sZ)] (ac hs [] (sZ) (⟨none,0,[],rfl,by simp,by simp;omega,Dg.nil,(by show 0=_;exact (Nat.div_eq_of_lt (vx hx oM)).symm),SlO.nil⟩))))
theorem D0 {a b:Nat}(ha:a<18446744073709551616)(hb:b<18446744073709551616):a*b≤340282366920938463426481119284349108225:=by
 have h1:a≤18446744073709551615:=by omega
 have h2:b≤18446744073709551615:=by omega
 exact Nat.mul_le_mul h1 h2
def w3 (u2 u1 u0:Nat):Nat:=18446744073709551616*(18446744073709551616*u2+u1)+u0
def w2 (v1 v0:Nat):Nat:=18446744073709551616*v1+v0
structure Gss (u2 u1 u0 v1 v0 g r o:Nat):Prop where
  e:g*v1+(r+18446744073709551616*o)=18446744073709551616*u2+u1
  lt:g+1=18446744073709551616∨w3 u2 u1 u0<(g+1)*w2 v1 v0
  gb:g<18446744073709551616
def vf (u2 u1 u0 v1 v0 g:Nat):Prop:=g*w2 v1 v0≤w3 u2 u1 u0∧(g+1=18446744073709551616∨w3 u2 u1 u0<(g+1)*w2 v1 v0)∧g<18446744073709551616
theorem gv {g v1 v0:Nat}:g*w2 v1 v0=18446744073709551616*(g*v1)+g*v0:=by unfold w2;rw[Nat.mul_add,Nat.mul_left_comm]
theorem Gss.fin {u2 u1 u0 v1 v0 g r o:Nat}(h:Gss u2 u1 u0 v1 v0 g r o)(ht:g*v0≤18446744073709551616*(r+18446744073709551616*o)+u0):vf u2 u1 u0 v1 v0 g:=by
 refine ⟨?_,h.lt,h.gb⟩;rw[gv]
 unfold w3
 rw[←h.e,Nat.mul_add]
 omega
theorem Gss.over {u2 u1 u0 v1 v0 g r o:Nat}(h:Gss u2 u1 u0 v1 v0 g r o)(ho:0<o)(h0:v0<18446744073709551616):vf u2 u1 u0 v1 v0 g:=by
 refine h.fin ?_;have h1:=D0 h.gb h0
 omega
theorem Gss.dec {u2 u1 u0 v1 v0 g r r' o':Nat}(h:Gss u2 u1 u0 v1 v0 g r 0)(ht:18446744073709551616*r+u0<g*v0)(e:r'+18446744073709551616*o'=r+v1):0<g∧Gss u2 u1 u0 v1 v0 (g-1) r' o':=by
 have hg:0<g:=ct ht;obtain ⟨p,rfl⟩:∃ p,g=p+1:=⟨g-1,by omega⟩;have e1:=h.e;rw[Nat.mul_zero,Nat.add_zero] at e1
 have h1:w3 u2 u1 u0<(p+1)*w2 v1 v0:=by
  rw[gv]
  unfold w3
  rw[←e1,Nat.mul_add]
  omega
 have e2:(p+1)*v1=p*v1+v1:=by rw[Nat.add_mul,Nat.one_mul]
 rw[Nat.add_sub_cancel];exact ⟨hg,⟨by omega,Or.inr h1,by have:=h.gb;omega⟩⟩
theorem t7 {u2 u1 u0 v1 v0 r o:Nat}(h:u2=v1)(e:r+18446744073709551616*o=u1+v1):Gss u2 u1 u0 v1 v0 18446744073709551615 r o:=by
 subst h;exact ⟨by omega,.inl rfl,by decide⟩
theorem uA {u2 u1 u0 v1 v0 q r:Nat}(e:u2*18446744073709551616+u1=v1*q+r)(hr:r<v1)(h0:u0<18446744073709551616)(hq:q<18446744073709551616):Gss u2 u1 u0 v1 v0 q r 0:=by
 rw[Nat.mul_comm u2] at e
 refine ⟨by rw[Nat.mul_comm q];omega,.inr ?_,hq⟩;rw[gv,Nat.add_mul q 1 v1,Nat.one_mul,Nat.mul_comm q v1]
 unfold w3
 rw[e]
 have h1:18446744073709551616*(v1*q+r)+18446744073709551616≤18446744073709551616*(v1*q+v1):=by
  rw[←Nat.mul_succ];exact Nat.mul_le_mul_left _ oM
 have h2:0≤(q+1)*v0:=Nat.zero_le _
 omega
theorem AW (u2 u1 u0 v1 v0:Nat)(h0:u2<18446744073709551616)(h1:u1<18446744073709551616)(h2:u0<18446744073709551616)(h3:v1<18446744073709551616)(h4:v0<18446744073709551616)(hle:u2≤v1)(hv:0<v1)(w:World)(h:Hp)(g:G w h):CR 180 #[mV u2,mV u1,mV u0,mV v1,mV v0] w h (fun v _=>∃ g:Nat,v=mV g∧vf u2 u1 u0 v1 v0 g):=by
 have hs:=sS g;refine go Tryz.func180 [(0,mV u2),(1,mV u1),(2,mV u0),(3,mV v1),(4,mV v0)] rfl (aa hs [.v 10 (uV 0)] (aG (lL hs [.v 11 (uV 0),.v 12 (uV 0),.v 13 (uV 0)] (af (aa hs [.m 16 0,.m 17 3] ?_)))));cases hb1:((u2:Int) == (v1:Int))
 ·
  have phb1:=ai hb1;refine lB 18 hb1 (ah (kQ (lL hs [.m 26 0,.m 27 1,.m 28 3] (lC 29 hs (td u2 u1 v1 oM wM wM _ _ hs.g) ?_))));rintro _ w7 h8 hs ⟨q2,r3,rfl,he4,hl5,hm6⟩;refine lL hs [.m 25 29,.v 30 (mV q2),.v 31 (mV r3),.m 11 30,.m 12 31] (af (kZ ?_));refine bQ _ (CG.loop (fun μ_ Γ w_=>∃ (g:Nat) (r:Nat) (ov:Nat) (h_:Hp),μ_=g∧Γ=[(2,mV u0),(3,mV v1),(4,mV v0),(10,uV 0),(11,mV g),(12,mV r),(13,mV ov)]∧SS w h w_ h_ [] [] []∧Gss u2 u1 u0 v1 v0 g r ov∧r<18446744073709551616∧ov≤1) _ ⟨q2,r3,0,h8,rfl,rfl,hs.to _ _,uA oM oM h2 oM,oM,oM⟩ ?_);rintro _ _ w9 ⟨g,r,ov,_,hm11,rfl,hs,hG,hr,hov⟩;have hgl:=hG.gb;refine cQ (aa hs [.m 32 13] ?_);cases za:((ov:Int) == (0:Int))
  ·
   have zo:=ai za;refine lB 33 za (ah (CG.exit ?_))
   show CG _ _ _ _ _ _ _ _
   exact aa hs [.m 61 11,.m 10 61] (ac hs [] (mV g) (⟨g,rfl,(by first|exact hG.over oM h4|(rw[show ov=0 by omega] at hG;exact hG.fin oM))⟩))
  have zo:=eq_of_beq za;refine lB 33 za (ao (cK (kZ (aa hs [.m 35 11,.m 36 4] (lC 37 hs (ju g v0 wM wM _ _ hs.g) ?_)))));rintro _ _ zw hs ⟨s13,zx,rfl,he15,hl16,hm17,hn18⟩;have hxhe15:=fF (a:=g) (b:=v0) wM wM;refine lL hs [.m 34 37,.v 38 (mV s13),.v 39 (mV zx),.m 14 38,.m 15 39] (af (aa hs [.m 40 14,.m 41 12] ?_));cases zb:(decide ((s13:Int)<(r:Int)))
  ·
   have zp:=oF zb;refine lB 42 zb (lL hs [.m 43 42,.m 44 14,.m 45 12] ?_);cases zc:((s13:Int) == (r:Int))
   ·
    have zq:=ai zc;refine lB 46 zc (lL hs [.m 47 46] (lG 48 ?_));refine lG 49 (lG 50 (lL hs [.v 51 qF,.v 52 qF] (ah (cK (aE ?_)))));have hgt:18446744073709551616*r+u0<g*v0:=by omega
    rw[show ov=0 by omega] at hG
    have hg0:=ct hgt;have hgb:=hG.gb;refine lL hs [.m 53 11] (lV 54 (mV (g-1)) ?_ (hr:=rU (((g:Int)-(1:Int))) kR (dV g 1 oM oM)));refine lL hs [.m 11 54] (lN (kQ (lL hs [.m 56 12,.m 57 3] ?_)));obtain ⟨s23,zj,he25,hl26,hm27,hr28⟩:=cf r v1 0 wM wM oM;refine lV 58 (.tuple #[mV s23,mV zj]) ?_ (hr:=ck kR (hr28 _));refine lL hs [.m 55 58,.v 59 (mV s23),.v 60 (mV zj),.m 12 59,.m 13 60] (lD ?_);intro a_ ka;refine ⟨_,_,?_,⟨g-1,s23,zj,zw,rfl,rfl,hs.to _ _,((hG.dec hgt oM).2),oM,oM⟩,ka.to _ kR⟩
    omega
   have zq:=eq_of_beq zc;refine lB 46 zc (lL hs [.m 47 46,.m 48 15,.m 49 2] ?_);cases zd:(decide ((zx:Int)≤(u0:Int)))
   ·
    have zr:=oF zd;refine lB 50 zd (lL hs [.v 51 qF,.v 52 qF] (ah (cK (aE ?_))));have hgt:18446744073709551616*r+u0<g*v0:=by omega
    rw[show ov=0 by omega] at hG
    have hg0:=ct hgt;have hgb:=hG.gb;refine lL hs [.m 53 11] (lV 54 (mV (g-1)) ?_ (hr:=rU (((g:Int)-(1:Int))) kR (dV g 1 oM oM)));refine lL hs [.m 11 54] (lN (kQ (lL hs [.m 56 12,.m 57 3] ?_)));obtain ⟨s33,zk,he35,hl36,hm37,hr38⟩:=cf r v1 0 wM wM oM;refine lV 58 (.tuple #[mV s33,mV zk]) ?_ (hr:=ck kR (hr38 _));refine lL hs [.m 55 58,.v 59 (mV s33),.v 60 (mV zk),.m 12 59,.m 13 60] (lD ?_);intro a_ ka;refine ⟨_,_,?_,⟨g-1,s33,zk,zw,rfl,rfl,hs.to _ _,((hG.dec hgt oM).2),oM,oM⟩,ka.to _ kR⟩
    omega
   have zr:=oT zd;refine lB 50 zd (lL hs [.v 51 qT,.v 52 qT] (ao (CG.exit ?_)))
   show CG _ _ _ _ _ _ _ _
   exact aa hs [.m 61 11,.m 10 61] (ac hs [] (mV g) (⟨g,rfl,(by first|exact hG.over oM h4|(rw[show ov=0 by omega] at hG;exact hG.fin oM))⟩))
  have zp:=oT zb;refine lB 42 zb (lL hs [.m 43 42] (lG 44 ?_));refine lG 45 (lG 46 (lG 47 (lG 48 (lG 49 (lG 50 (lG 51 (lL hs [.v 52 qT] (ao (CG.exit ?_)))))))))
  show CG _ _ _ _ _ _ _ _
  exact aa hs [.m 61 11,.m 10 61] (ac hs [] (mV g) (⟨g,rfl,(by first|exact hG.over oM h4|(rw[show ov=0 by omega] at hG;exact hG.fin oM))⟩))
 have phb1:=eq_of_beq hb1;refine lB 18 hb1 (ao (aa hs [.v 11 (uV 18446744073709551615)] (lN (kQ (lL hs [.m 20 1,.m 21 3] ?_)))));obtain ⟨s42,zl,he44,hl45,hm46,hr47⟩:=cf u1 v1 0 wM wM oM;refine lV 22 (.tuple #[mV s42,mV zl]) ?_ (hr:=ck kR (hr47 _));refine lL hs [.m 19 22,.v 23 (mV s42),.v 24 (mV zl),.m 12 23,.m 13 24] (af (kZ ?_));refine bQ _ (CG.loop (fun μ_ Γ w_=>∃ (g:Nat) (r:Nat) (ov:Nat) (h_:Hp),μ_=g∧Γ=[(2,mV u0),(3,mV v1),(4,mV v0),(10,uV 0),(11,mV g),(12,mV r),(13,mV ov)]∧SS w h w_ h_ [] [] []∧Gss u2 u1 u0 v1 v0 g r ov∧r<18446744073709551616∧ov≤1) _ ⟨18446744073709551615,s42,zl,h,rfl,rfl,hs.to _ _,t7 oM oM,oM,oM⟩ ?_);rintro _ _ _ ⟨g,r,ov,_,hm50,rfl,hs,hG,hr,hov⟩;have hgl:=hG.gb;refine cQ (aa hs [.m 32 13] ?_);cases ze:((ov:Int) == (0:Int))
 ·
  have zs:=ai ze;refine lB 33 ze (ah (CG.exit ?_))
  show CG _ _ _ _ _ _ _ _
  exact aa hs [.m 61 11,.m 10 61] (ac hs [] (mV g) (⟨g,rfl,(by first|exact hG.over oM h4|(rw[show ov=0 by omega] at hG;exact hG.fin oM))⟩))
 have zs:=eq_of_beq ze;refine lB 33 ze (ao (cK (kZ (aa hs [.m 35 11,.m 36 4] (lC 37 hs (ju g v0 wM wM _ _ hs.g) ?_)))));rintro _ _ zA hs ⟨s52,zB,rfl,he54,hl55,hm56,hn57⟩;have hxhe54:=fF (a:=g) (b:=v0) wM wM;refine lL hs [.m 34 37,.v 38 (mV s52),.v 39 (mV zB),.m 14 38,.m 15 39] (af (aa hs [.m 40 14,.m 41 12] ?_));cases zf:(decide ((s52:Int)<(r:Int)))
 ·
  have zt:=oF zf;refine lB 42 zf (lL hs [.m 43 42,.m 44 14,.m 45 12] ?_);cases zg:((s52:Int) == (r:Int))
  ·
   have zu:=ai zg;refine lB 46 zg (lL hs [.m 47 46] (lG 48 ?_));refine lG 49 (lG 50 (lL hs [.v 51 qF,.v 52 qF] (ah (cK (aE ?_)))));have hgt:18446744073709551616*r+u0<g*v0:=by omega
   rw[show ov=0 by omega] at hG
   have hg0:=ct hgt;have hgb:=hG.gb;refine lL hs [.m 53 11] (lV 54 (mV (g-1)) ?_ (hr:=rU (((g:Int)-(1:Int))) kR (dV g 1 oM oM)));refine lL hs [.m 11 54] (lN (kQ (lL hs [.m 56 12,.m 57 3] ?_)));obtain ⟨s62,zm,he64,hl65,hm66,hr67⟩:=cf r v1 0 wM wM oM;refine lV 58 (.tuple #[mV s62,mV zm]) ?_ (hr:=ck kR (hr67 _));refine lL hs [.m 55 58,.v 59 (mV s62),.v 60 (mV zm),.m 12 59,.m 13 60] (lD ?_);intro a_ ka;refine ⟨_,_,?_,⟨g-1,s62,zm,zA,rfl,rfl,hs.to _ _,((hG.dec hgt oM).2),oM,oM⟩,ka.to _ kR⟩
   omega
  have zu:=eq_of_beq zg;refine lB 46 zg (lL hs [.m 47 46,.m 48 15,.m 49 2] ?_);cases zi:(decide ((zB:Int)≤(u0:Int)))
  ·
   have zv:=oF zi;refine lB 50 zi (lL hs [.v 51 qF,.v 52 qF] (ah (cK (aE ?_))));have hgt:18446744073709551616*r+u0<g*v0:=by omega
   rw[show ov=0 by omega] at hG
   have hg0:=ct hgt;have hgb:=hG.gb;refine lL hs [.m 53 11] (lV 54 (mV (g-1)) ?_ (hr:=rU (((g:Int)-(1:Int))) kR (dV g 1 oM oM)));refine lL hs [.m 11 54] (lN (kQ (lL hs [.m 56 12,.m 57 3] ?_)));obtain ⟨s72,zn,he74,hl75,hm76,hr77⟩:=cf r v1 0 wM wM oM;refine lV 58 (.tuple #[mV s72,mV zn]) ?_ (hr:=ck kR (hr77 _));refine lL hs [.m 55 58,.v 59 (mV s72),.v 60 (mV zn),.m 12 59,.m 13 60] (lD ?_);intro a_ ka;refine ⟨_,_,?_,⟨g-1,s72,zn,zA,rfl,rfl,hs.to _ _,((hG.dec hgt oM).2),oM,oM⟩,ka.to _ kR⟩
   omega
  have zv:=oT zi;refine lB 50 zi (lL hs [.v 51 qT,.v 52 qT] (ao (CG.exit ?_)))
  show CG _ _ _ _ _ _ _ _
  exact aa hs [.m 61 11,.m 10 61] (ac hs [] (mV g) (⟨g,rfl,(by first|exact hG.over oM h4|(rw[show ov=0 by omega] at hG;exact hG.fin oM))⟩))
 have zt:=oT zf;refine lB 42 zf (lL hs [.m 43 42] (lG 44 ?_));refine lG 45 (lG 46 (lG 47 (lG 48 (lG 49 (lG 50 (lG 51 (lL hs [.v 52 qT] (ao (CG.exit ?_)))))))))
 show CG _ _ _ _ _ _ _ _
 exact aa hs [.m 61 11,.m 10 61] (ac hs [] (mV g) (⟨g,rfl,(by first|exact hG.over oM h4|(rw[show ov=0 by omega] at hG;exact hG.fin oM))⟩))
theorem AC (A:Option Addr)(c:Nat)(l:List Nat)(n:Nat)(hn:l.length=n)(hl:l.length≤1099511627776)(hc:l.length≤c)(w:World)(h:Hp)(g:G w h)(hA:SlO 1 aj 0 h A l):CV 133 #[.slice A n c] w h (.slice A (tl l n) c):=by
 subst hn;exact wJ A c l hl hc w h g hA
theorem Cc (rb:Nat)(l:List Nat)(c d:Nat)(hd:0<d)(hdB:d<18446744073709551616)(hW:Wd l)(hl:l.length≤1000000000)(hc:l.length≤c)(w:World)(h:Hp)(g:G w h)(ho:Own w rb 22 (l.flatMap aj))(hj:h[rb]?=some junk):Calls Tryz.prog 106 #[.slice (sB rb) l.length c,mV d] w (cA rb w h fun v w' _=>∃ z:List Nat,∃ r:Nat,v=.tuple #[.slice (sB rb) (tl z z.length) c,uV r]∧z.length=l.length∧Wd z∧aA l=d*aA z+r∧r<d∧Own w' rb 22 (z.flatMap aj)):=by
 have hmo:UpM [rb] w h w h:=UpM.refl g;obtain ⟨wz,hz,hs⟩:=SS.at_ g ho hj;have hll:l.length=l.length:=rfl;refine go Tryz.func106 [(0,qS (sB rb) l.length c),(1,mV d)] rfl (aa hs [.v 4 (sZ),.v 5 (uV 0)] (aG (lL hs [.v 6 (uV 0)] (af (aa hs [.m 8 0,.v 9 (nV l.length)] (lV 10 (iV ((l.length:Int)-1)) ?_ (hr:=rS (((l.length:Nat)-1)) kR ((eW oM oM).trans oM))))))));refine lL hs [.m 7 10] (bn ?_);refine bQ _ (CG.loop (fun μ_ Γ w_=>∃ (m:Nat) (z:List Nat) (r:Nat) (h_:Hp),μ_=m∧Γ=[(0,qS (sB rb) l.length c),(1,mV d),(4,sZ),(5,uV 0),(7,iV ((m:Int)-1)),(6,mV r)]∧SS wz hz w_ h_ [⟨rb,22,(z).flatMap aj⟩] [] []∧m≤l.length∧z.length=l.length∧Wd z∧aA l=d*(18446744073709551616^m*ak 18446744073709551616 (z.drop m))+(18446744073709551616^m*r+ak 18446744073709551616 (z.take m))∧r<d∧UpM [rb] w h w_ h_) _ ⟨l.length,l,0,h,rfl,rfl,hs.to _ _,nR _,rfl,hW,(by show ak _ l=_;simp[ak,List.drop_eq_nil_of_le]),hd,hmo⟩ ?_);rintro _ _ w1 ⟨m,z,r,h2,hm3,rfl,hs,hm,hzl,hZ,inv,hrd,hmo⟩;refine cQ (aa hs [.m 11 7] ?_);cases hb4:(decide ((0:Int)≤((m:Int)-1:Int)))
 ·
  have phb4:=oF hb4;refine lB 12 hb4 (ah (CG.exit ?_))
  show CG _ _ _ _ _ _ _ _
  refine aa hs [.m 28 0] (uU 29 0 hs (fun _ g_ f_ sg_=>AC (sB rb) c (z) (l.length) hzl oM oM _ _ g_ (SlO.of_flat (sz:=1) (f:=aj) (d:=0) (b:=rb) (o:=0) (l:=z) (fun _=>rfl) sg_)) ?_);rintro _ w5 h6 u7 hs rfl;replace hmo:=hmo.trans (u7.m _);refine lL hs [.m 30 6,.m 4 29,.m 5 30] (lN (kX ?_));have hm0:m=0:=by omega
  rw[hm0] at inv
  exact hs.retM hmo [] (.tuple #[qS (sB rb) (tl (z) l.length) c,mV r]) ⟨z,r,by rw[hzl],hzl,hZ,(by simp only[Nat.pow_zero,Nat.one_mul,List.drop_zero,List.take_zero,ak] at inv;exact inv),hrd,hs.own 0⟩
 have phb4:=oT hb4;refine lB 12 hb4 (ao (cK (cQ (kZ (kQ (lL hs [.m 16 0,.m 17 7,.m 18 6,.m 19 0,.m 20 7] (lX 21 (sB rb) l.length c 1 ((m:Int)-1) (m-1) rfl ?_)))))));have hzg:=hZ.get (m-1);refine lQ 22 0 z aj 1 0 (m-1) (mV ((z).getD (m-1) 0)) hs oM (lL hs [.m 23 1] (iz 24 (td r ((z).getD (m-1) 0) d oM wM wM _ _ hs.g) ?_));rintro _ _ zb u15 ⟨q8,r9,rfl,he10,hl11,hm12⟩;replace hmo:=hmo.trans (u15.m _);replace hs:=hs.step u15;refine lL hs [.m 15 24,.v 25 (mV q8),.v 26 (mV r9)] (lX 27 (sB rb) l.length c 1 ((m:Int)-1) (m-1) rfl ?_);refine DB 0 z aj 1 (m-1) q8 hs oM (fun _ pu hs=>?_);replace hmo:=hmo.put pu (List.mem_singleton.2 rfl) hs.g;have za:((z).set (m-1) q8).length=l.length:=by rw[List.length_set];exact hzl
 replace hs:=hs.to [⟨rb,22,((z).set (m-1) q8).flatMap aj⟩] [];refine lL hs [.m 6 26] (lN (kQ (lL hs [.m 13 7] (lV 14 (iV (((m-1:Nat):Int)-1)) ?_ (hr:=rS ((((m:Int)-1)-1)) kR ((eW oM oM).trans oM))))));refine lL hs [.m 7 14] (lD ?_);intro a_ ka;refine ⟨_,_,?_,⟨m-1,(z).set (m-1) q8,r9,zb,rfl,rfl,hs.to _ _,oM,za,(hZ.set _ oM),(uT oM (by rw[show m-1+1=m by omega];exact inv) oM),oM,hmo⟩,ka.to _ kR⟩
 omega
theorem BA {u:List Nat}{k:Nat}(hk:2≤k):w3 (u.getD k 0) (u.getD (k-1) 0) (u.getD (k-2) 0)=u.getD k 0*18446744073709551616*18446744073709551616+u.getD (k-1) 0*18446744073709551616+u.getD (k-2) 0:=by
 unfold w3
 rw[Nat.mul_comm (u.getD k 0) 18446744073709551616,Nat.mul_comm (18446744073709551616*u.getD k 0) 18446744073709551616,Nat.mul_comm (u.getD (k-1) 0),Nat.mul_add]
theorem xF {v1 v0:Nat}:w2 v1 v0=v1*18446744073709551616+v0:=by unfold w2;rw[Nat.mul_comm]
section
variable {n j G:Nat} {u v:List Nat}
theorem Br (hn:2≤n)(hl:v.length=n)(hdv:Wd v)(hdu:Wd u)(hu:j+n<u.length)(hR:aA u<18446744073709551616^(j+1)*aA v):u.getD (j+n) 0≤v.getD (n-1) 0:=by
 rcases Nat.lt_or_ge (v.getD (n-1) 0) (u.getD (j+n) 0) with h|h
 ·exfalso
  have e1:=aJ 18446744073709551616 (l:=v) (k:=n-1) oM;rw[show n-1+1=v.length by omega,List.take_length] at e1
  have h1:=bM (Dg.take hdv (n-1));rw[List.length_take,Nat.min_eq_left oM] at h1
  have e2:=aJ 18446744073709551616 (l:=u) (k:=j+n) oM;have e3:=bJ 18446744073709551616 (l:=u) (k:=j+n+1) oM;have h2:18446744073709551616^(j+n)*(v.getD (n-1) 0+1)≤18446744073709551616^(j+n)*u.getD (j+n) 0:=Nat.mul_le_mul_left _ h
  have h3:18446744073709551616^(j+1)*aA v<18446744073709551616^(j+1)*(18446744073709551616^(n-1)*(v.getD (n-1) 0+1)):=by
   refine Nat.mul_lt_mul_of_pos_left ?_ (Nat.pow_pos kD)
   show ak _ v<_
   rw[e1,Nat.mul_add,Nat.mul_one];omega
  rw[←Nat.mul_assoc,←Nat.pow_add,show j+1+(n-1)=j+n by omega] at h3
  have h4:aA u=ak 18446744073709551616 (u.take (j+n))+18446744073709551616^(j+n)*u.getD (j+n) 0+18446744073709551616^(j+n+1)*ak 18446744073709551616 (u.drop (j+n+1)):=by
   show ak _ u=_
   rw[e3,e2]
  have h5:=Nat.zero_le (18446744073709551616^(j+n+1)*ak 18446744073709551616 (u.drop (j+n+1)))
  omega
 ·exact h
theorem qZ (hn:2≤n)(hl:v.length=n)(hdv:Wd v)(hdu:Wd u)(hu:j+n<u.length)(htop:v.getD (n-1) 0≠0)(hR:aA u<18446744073709551616^(j+1)*aA v)(hG:vf (u.getD (j+n) 0) (u.getD (j+n-1) 0) (u.getD (j+n-2) 0) (v.getD (n-1) 0) (v.getD (n-2) 0) G) :
  aA u/(18446744073709551616^j*aA v)≤G∧G≤aA u/(18446744073709551616^j*aA v)+1:=by
 obtain ⟨h1,h2,h3⟩:=hG;rw[BA oM,xF] at h1 h2
 exact pV kD hn hl hdv hdu hu htop hR h1 h2 h3
theorem qU (hn:2≤n)(hl:v.length=n)(hdv:Wd v)(htop:v.getD (n-1) 0≠0):18446744073709551616^(n-1)≤aA v∧aA v<18446744073709551616^n:=by
 have h2:=bM hdv;rw[hl] at h2
 refine ⟨?_,h2⟩;have e1:=aJ 18446744073709551616 (l:=v) (k:=n-1) oM;rw[show n-1+1=v.length by omega,List.take_length] at e1
 have h3:18446744073709551616^(n-1)*1≤18446744073709551616^(n-1)*v.getD (n-1) 0:=Nat.mul_le_mul_left _ oM
 show _≤ak _ v
 omega
theorem ri (hn:2≤n)(hl:v.length=n)(hdv:Wd v)(hR:aA u<18446744073709551616^(j+1)*aA v):aA u<18446744073709551616^(j+n+1):=by
 have h2:=bM hdv;rw[hl] at h2
 have h1:18446744073709551616^(j+1)*aA v<18446744073709551616^(j+1)*18446744073709551616^n:=Nat.mul_lt_mul_of_pos_left h2 (Nat.pow_pos kD);rw[←Nat.pow_add,show j+1+n=j+n+1 by omega] at h1
 omega
theorem wm {u1:List Nat}(hn:2≤n)(hl:v.length=n)(hdv:Wd v)(hdu:Wd u)(hd1:Wd u1)(hu:j+n<u.length)(htop:v.getD (n-1) 0≠0)(hR:aA u<18446744073709551616^(j+1)*aA v)
  (hG:aA u/(18446744073709551616^j*aA v)≤G∧G≤aA u/(18446744073709551616^j*aA v)+1)(hab:Above u1 u (j+n+1))(e:aA u1+18446744073709551616^j*(G*aA v)=aA u+18446744073709551616^(j+n+1)*0) :
  aA u1<18446744073709551616^j*aA v∧aA u1+18446744073709551616^j*(G*aA v)=aA u:=by
 obtain ⟨v1,v2⟩:=qU hn hl hdv htop;have hb:=gz (b:=18446744073709551616) kD hab hd1 hdu (by rw[hab.1];omega) (ri hn hl hdv hR);have:=(iB (b:=18446744073709551616) kD hn v1 v2 hR hb e (Nat.zero_le 1) hG).1 rfl;rw[Nat.mul_zero,Nat.add_zero] at e
 exact ⟨this.2.2.1,e⟩
theorem Cb {U1 U2 W K T c:Nat}(e2:U2+T*c=U1+W)(g2:U1+W=K+T)(hU:U2<T)(hK:K<W)(hW:W≤T):U2=K:=by
 have hc:c=1:=by
  rcases Nat.lt_trichotomy c 1 with h|h|h
  ·have:c=0:=by omega
   subst this;omega
  ·exact h
  ·have h2:T*2≤T*c:=Nat.mul_le_mul_left _ h
   omega
 subst hc
 omega
theorem Ao {u1 u2:List Nat}{c:Nat}(hn:2≤n)(hl:v.length=n)(hdv:Wd v)(hdu:Wd u)(hd1:Wd u1)(hd2:Wd u2)(hu:j+n<u.length)(htop:v.getD (n-1) 0≠0)(hR:aA u<18446744073709551616^(j+1)*aA v)
  (hG:aA u/(18446744073709551616^j*aA v)≤G∧G≤aA u/(18446744073709551616^j*aA v)+1)(hab:Above u1 u (j+n+1))(hab2:Above u2 u (j+n+1))(e:aA u1+18446744073709551616^j*(G*aA v)=aA u+18446744073709551616^(j+n+1)*1)
  (e2:aA u2+18446744073709551616^(j+n+1)*c=aA u1+18446744073709551616^j*aA v) :
  aA u2<18446744073709551616^j*aA v∧aA u2+18446744073709551616^j*((G-1)*aA v)=aA u∧0<G:=by
 obtain ⟨v1,v2⟩:=qU hn hl hdv htop;have hRb:=ri hn hl hdv hR;have hb:=gz (b:=18446744073709551616) kD hab hd1 hdu (by rw[hab.1];omega) hRb;have hb2:=gz (b:=18446744073709551616) kD hab2 hd2 hdu (by rw[hab2.1];omega) hRb;obtain ⟨g1,g2,g3,g4⟩:=(iB (b:=18446744073709551616) kD hn v1 v2 hR hb e oM hG).2 rfl
 have hbig:18446744073709551616^j*aA v≤18446744073709551616^(j+n+1):=by
  have h1:18446744073709551616^j*aA v≤18446744073709551616^j*18446744073709551616^n:=Nat.mul_le_mul_left _ (Nat.le_of_lt v2);rw[←Nat.pow_add] at h1
  have h2:(18446744073709551616:Nat)^(j+n)≤18446744073709551616^(j+n+1):=Nat.pow_le_pow_right kD oM;exact Nat.le_trans h1 h2
 have hk:aA u2=aA u-18446744073709551616^j*((G-1)*aA v):=Cb e2 g2 hb2 g3 hbig;exact ⟨by rw[hk];exact g3,by rw[hk];exact Nat.sub_add_cancel g4,by rw[g1];exact Nat.succ_pos _⟩
theorem Bq {u1:List Nat}(hn:2≤n)(hl:v.length=n)(hdv:Wd v)(hdu:Wd u)(hd1:Wd u1)(hu:j+n<u.length)(htop:v.getD (n-1) 0≠0)(hR:aA u<18446744073709551616^(j+1)*aA v)
  (hG:aA u/(18446744073709551616^j*aA v)≤G∧G≤aA u/(18446744073709551616^j*aA v)+1)(hab:Above u1 u (j+n+1))(e:aA u1+18446744073709551616^j*(G*aA v)=aA u+18446744073709551616^(j+n+1)*1):0<G:=by
 obtain ⟨v1,v2⟩:=qU hn hl hdv htop;have hb:=gz (b:=18446744073709551616) kD hab hd1 hdu (by rw[hab.1];omega) (ri hn hl hdv hR);obtain ⟨g1,_⟩:=(iB (b:=18446744073709551616) kD hn v1 v2 hR hb e (Nat.le_refl 1) hG).2 rfl;rw[g1];exact Nat.succ_pos _
theorem tE (hn:n≤u.length)(hl:v.length=n)(hdv:Wd v)(hdu:Wd u)(hR:aA u<aA v):aA (u.take n)=aA u:=by
 have h2:=bM hdv;rw[hl] at h2
 have h3:ak 18446744073709551616 u<18446744073709551616^(n+0):=Nat.lt_trans hR h2;have hz:=(fu 18446744073709551616 (l:=u) (k:=n) (m:=0) oM kD hdu h3).2;have e:=bJ 18446744073709551616 (l:=u) (k:=n) hn;have h4:ak 18446744073709551616 (u.drop n)=0:=eM _ (fun i=>by rw[bp];exact hz _ oM);rw[h4,Nat.mul_zero,Nat.add_zero] at e
 exact e.symm
end
theorem sd {q:List Nat}{j Q X V R R':Nat}(hj:j<q.length)(h0:q.getD j 0=0)(inv:X=aA q*V+R)(e:R'+18446744073709551616^j*(Q*V)=R):X=aA (q.set j Q)*V+R':=by
 have s1:=ci 18446744073709551616 (l:=q) (k:=j) Q hj;rw[h0,Nat.mul_zero,Nat.add_zero] at s1
 have s2:aA (q.set j Q)=aA q+18446744073709551616^j*Q:=s1;rw[s2,Nat.add_mul,inv,←e,Nat.mul_assoc];omega
theorem AE {X V R q a b s:Nat}(hV:V=b*2^s)(hX:X=a*2^s)(inv:X=q*V+R)(hR:R<V):q=a/b∧R/2^s=a%b:=by
 have hp:=Nat.two_pow_pos s;have hV0:0<V:=by omega
 have hb:0<b:=by
  rcases Nat.eq_zero_or_pos b with h|h
  ·rw[h,Nat.zero_mul] at hV;omega
  ·exact h
 have e1:a*2^s=V*q+R:=by rw[←hX,inv,Nat.mul_comm]
 obtain ⟨h1,h2⟩:=kd (A:=a) (y:=b) (Q:=q) hV e1 hR;have h3:a=R/2^s+b*q:=by omega
 constructor
 ·rw[h3,Nat.add_mul_div_left _ _ hb,Nat.div_eq_of_lt h2,Nat.zero_add]
 ·rw[h3,Nat.add_mul_mod_self_left,Nat.mod_eq_of_lt h2]
theorem qo {a s:Nat}(hs:s≤64)(h:a*2^s<18446744073709551616):a*2^s+2^s≤18446744073709551616:=by
 have e:=rF hs;rw[e] at h ⊢
 have h1:a<2^(64-s):=Nat.lt_of_mul_lt_mul_right h;have h2:(a+1)*2^s≤2^(64-s)*2^s:=Nat.mul_le_mul_right _ h1;rw[Nat.add_mul,Nat.one_mul] at h2
 exact h2
theorem tf {x y:List Nat}{s:Nat}(hx:Wd x)(hy:Wd y)(hn:1≤y.length)(htop:y.getD (y.length-1) 0≠0)(hxy:y.length≤x.length):aA x*2^s<18446744073709551616^(x.length-y.length+1)*(aA y*2^s):=by
 have e1:=aJ 18446744073709551616 (l:=y) (k:=y.length-1) oM;rw[show y.length-1+1=y.length by omega,List.take_length] at e1
 have h3:18446744073709551616^(y.length-1)*1≤18446744073709551616^(y.length-1)*y.getD (y.length-1) 0:=Nat.mul_le_mul_left _ oM;have h4:18446744073709551616^(y.length-1)≤aA y:=by show _≤ak _ y;omega
 have h5:18446744073709551616^(x.length-y.length+1)*18446744073709551616^(y.length-1)≤18446744073709551616^(x.length-y.length+1)*aA y:=Nat.mul_le_mul_left _ h4;rw[←Nat.pow_add,show x.length-y.length+1+(y.length-1)=x.length by omega] at h5
 have h6:aA x<18446744073709551616^x.length:=bM hx;rw[←Nat.mul_assoc];exact Nat.mul_lt_mul_of_pos_right (Nat.lt_of_lt_of_le h6 h5) (Nat.two_pow_pos s)
theorem xv (A:Option Addr)(c:Nat)(x:List Nat)(m:Nat)(hm:x.length=m)(hx:Wd x)(hlx:x.length≤1000000000)(n:Nat)(hn:n≤1000000000)(w:World)(h:Hp)(g:G w h)(hA:SlO 1 aj 0 h A x):CR 181 #[.slice A m c,nV n] w h (fun v h1=>wc h1 v (x.length-n/64) (fun z=>aA z=aA x/2^n)):=by
 subst hm;exact Cr A c x hx hlx n hn w h g hA
theorem Be {y z:List Nat}{s:Nat}(hs64:s≤64)(hy:Wd y)(hz:Wd z)(hV:aA z=aA y*2^s)(hn:1≤y.length)(hs:y.getD (y.length-1) 0*2^s<18446744073709551616)(hlen:y.length≤z.length):aA (z.take y.length)=aA y*2^s:=by
 have hlt:aA z<18446744073709551616^(y.length+0):=by
  rw[hV,Nat.add_zero];have e1:=aJ 18446744073709551616 (l:=y) (k:=y.length-1) oM;rw[show y.length-1+1=y.length by omega,List.take_length] at e1
  have h1:=bM (Dg.take hy (y.length-1));rw[List.length_take,Nat.min_eq_left oM] at h1
  have h2:aA y<18446744073709551616^(y.length-1)*(y.getD (y.length-1) 0+1):=by
   show ak _ y<_
   rw[e1,Nat.mul_add,Nat.mul_one];omega
  have h3:aA y*2^s<18446744073709551616^(y.length-1)*(y.getD (y.length-1) 0+1)*2^s:=Nat.mul_lt_mul_of_pos_right h2 (Nat.two_pow_pos s)
  have h4:18446744073709551616^(y.length-1)*(y.getD (y.length-1) 0+1)*2^s≤18446744073709551616^y.length:=by
   have e5:(18446744073709551616:Nat)^y.length=18446744073709551616^(y.length-1)*18446744073709551616:=by rw[←Nat.pow_succ];congr 1;omega
   rw[e5,Nat.mul_assoc];refine Nat.mul_le_mul_left _ ?_;rw[Nat.add_mul,Nat.one_mul];exact qo hs64 hs
  exact Nat.lt_of_lt_of_le h3 h4
 have hzz:=(fu 18446744073709551616 (l:=z) (k:=y.length) (m:=0) oM kD hz hlt).2;have e:=bJ 18446744073709551616 (l:=z) (k:=y.length) oM;have h4:ak 18446744073709551616 (z.drop y.length)=0:=eM _ (fun i=>by rw[bp];exact hzz _ oM);rw[h4,Nat.mul_zero,Nat.add_zero] at e
 rw[←hV];exact e.symm
theorem ui {y v:List Nat}{s:Nat}(hy:Wd y)(hv:Wd v)(hl:v.length=y.length)(hV:aA v=aA y*2^s)(hn:1≤y.length)(hs:9223372036854775808≤y.getD (y.length-1) 0*2^s):v.getD (v.length-1) 0≠0:=by
 intro h0;have e1:=aJ 18446744073709551616 (l:=v) (k:=v.length-1) oM;rw[show v.length-1+1=v.length by omega,List.take_length,h0,Nat.mul_zero,Nat.add_zero] at e1
 have h1:=bM (Dg.take hv (v.length-1));rw[List.length_take,Nat.min_eq_left oM] at h1
 have e2:=aJ 18446744073709551616 (l:=y) (k:=y.length-1) oM;rw[show y.length-1+1=y.length by omega,List.take_length] at e2
 have h2:18446744073709551616^(y.length-1)*y.getD (y.length-1) 0≤aA y:=by show _≤ak _ y;omega
 have h3:18446744073709551616^(y.length-1)*y.getD (y.length-1) 0*2^s≤aA y*2^s:=Nat.mul_le_mul_right _ h2;rw[Nat.mul_assoc] at h3
 have h4:18446744073709551616^(y.length-1)*1≤18446744073709551616^(y.length-1)*(y.getD (y.length-1) 0*2^s):=Nat.mul_le_mul_left _ oM
 have h5:aA v<18446744073709551616^(y.length-1):=by
  show ak _ v<_
  rw[e1,←hl];exact h1
 omega
theorem AN (A:Option Addr)(c:Nat)(x:List Nat)(D:Option Addr)(d:Nat)(y:List Nat)(hx:Wd x)(hy:Wd y)(hlx:x.length≤1000000000)(hny:2≤y.length)(hxy:y.length≤x.length)(htop:y.getD (y.length-1) 0≠0)(w:World)(h:Hp)(g:G w h)(hA:SlO 1 aj 0 h A x)(hD:SlO 1 aj 0 h D y):CR 155 #[.slice A x.length c,.slice D y.length d] w h (fun v h1=>∃ Aq cq,∃ q:List Nat,∃ Ar cr,∃ r:List Nat,v=.tuple #[.slice Aq q.length cq,.slice Ar r.length cr]∧q.length≤cq∧r.length≤cr∧Wd q∧Wd r∧aA q=aA x/aA y∧aA r=aA x%aA y∧q.length≤x.length∧r.length≤y.length∧SlO 1 aj 0 h1 Aq q∧SlO 1 aj 0 h1 Ar r):=by
 have hs:=(((sS g).aS hA).aS hD);refine go Tryz.func155 [(0,qS A x.length c),(1,qS D y.length d)] rfl (aa hs [.v 4 (sZ),.v 5 (sZ)] (aG (lL hs [.m 21 1,.v 22 (nV y.length),.m 6 22] (aG (lL hs [.m 23 1,.m 24 6] (bH 25 ((y.length:Nat)-1) (y.length-1) ?_))))));refine lX 26 D y.length d 1 (y.length-1:Nat) (y.length-1) ((hs.f.1).ok oM) (lH 27 (mV (y.getD (y.length-1) 0)) hs ((hs.f.1).el (y.length-1) oM) ?_);have hyt:=hy.get (y.length-1);refine ag 28 hs (wL (y.getD (y.length-1) 0) wM _ _ hs.g) (fun w1 h2 hs=>lL hs [.m 7 28] (aG (lL hs [.m 29 1,.m 30 7] (lC 31 hs (sL D d y hy oM (64-nb (y.getD (y.length-1) 0)) oM _ _ hs.g hs.f.1) ?_))));rintro _ w3 h4 hs ⟨V,vc,zv,rfl,hvc,hvlz,hWv,hVv,hFv⟩;replace hs:=hs.aS hFv;refine lL hs [.m 32 6] (lT 33 V zv.length vc 1 (y.length:Nat) y.length ?_);obtain ⟨vl,hvl_⟩:∃ vl,vl=zv.take y.length:=⟨_,rfl⟩;have hvlen:vl.length=y.length:=by rw[hvl_,List.length_take];omega
 have hWvl:Wd vl:=by rw[hvl_];exact Dg.take hWv _
 have hnbp:=(bX (n:=y.getD (y.length-1) 0) oM).2.2;have hnrm:=oc (y:=y.getD (y.length-1) 0) oM (hy.get _);have hVvl:aA vl=aA y*2^(64-nb (y.getD (y.length-1) 0)):=by rw[hvl_];exact Be oM hy hWv hVv oM hnrm.2 oM
 have htopv:vl.getD (vl.length-1) 0≠0:=ui hy hWvl hvlen hVvl oM hnrm.1;replace hs:=hs.aS ((hs.f.1).take y.length);rw[←hvl_] at hs
 refine lL hs [.m 8 33] (aG (lL hs [.m 34 0,.v 35 (nV x.length)] (bH 36 ((x.length:Nat)+1) (x.length+1) ?_)));refine lK 37 22 (x.length+1) 1 8 (uV 0) aj 0 hs (fun b5 w6 h7 hs=>?_);have hl8:(List.replicate (x.length+1) 0).length=(x.length+1):=by simp
 refine lL hs [.m 9 37] (aG (lL hs [.m 38 9,.m 39 0,.m 40 7] (lC 41 hs (sL A c x hx hlx (64-nb (y.getD (y.length-1) 0)) oM _ _ hs.g hs.f.r.2.1) ?_)));rintro _ w9 _ hs ⟨Uo,uc,zu,rfl,huc,hulz,hWzu,hVu,hFu⟩;replace hs:=hs.aS hFu;have hlu_:zu.length=x.length+1:=by omega
 refine Fj 42 0 (.tmp 38) (.tmp 41) 138 22 aj 0 Uo zu (x.length+1) zu.length uc (x.length+1) hs hs.f.1 rfl oM oM (by show ((List.replicate (x.length+1) 0).flatMap aj).length=_;rw[dq (sz:=1) (fun _=>rfl)];simp) (fun _ hs=>?_);replace hs:=hs.to [⟨b5,22,(zu).flatMap aj⟩] [];refine aG (lL hs [.m 43 0,.v 44 (nV x.length),.m 45 6] (bH 46 ((x.length:Nat)-(y.length:Nat)) (x.length-y.length) ?_));refine bH 47 ((x.length-y.length:Nat)+1) ((x.length-y.length)+1) (lK 48 22 ((x.length-y.length)+1) 1 8 (uV 0) aj 0 hs (fun za _ zD hs=>?_));have zt:(List.replicate ((x.length-y.length)+1) 0).length=((x.length-y.length)+1):=by simp
 refine lL hs [.m 4 48] (af (aa hs [.m 49 0,.v 50 (nV x.length),.m 51 6] (lV 52 (iV (((x.length-y.length+1:Nat):Int)-1)) ?_ (hr:=rS (((x.length:Nat)-(y.length:Nat))) kR ((eW oM oM).trans oM)))));refine lL hs [.m 10 52] (lN (bQ [(4,qS (sB za) ((x.length-y.length)+1) ((x.length-y.length)+1)),(5,sZ),(6,nV y.length),(7,nV (64-nb (y.getD (y.length-1) 0))),(8,qS V y.length vc),(9,qS (sB b5) (x.length+1) (x.length+1)),(10,iV (((x.length-y.length+1:Nat):Int)-1))] ?_));refine kZ ?_;refine bQ _ (CG.loop (fun μ_ Γ w_=>∃ (m:Nat) (ul:List Nat) (ql:List Nat) (h_:Hp),μ_=m∧Γ=[(4,qS (sB za) ((x.length-y.length)+1) ((x.length-y.length)+1)),(5,sZ),(6,nV y.length),(7,nV (64-nb (y.getD (y.length-1) 0))),(8,qS V y.length vc),(9,qS (sB b5) (x.length+1) (x.length+1)),(10,iV ((m:Int)-1))]∧SS w h w_ h_ [⟨za,22,(ql).flatMap aj⟩,⟨b5,22,(ul).flatMap aj⟩] [] [fun h_=>SlO 1 aj 0 h_ Uo zu,fun h_=>SlO 1 aj 0 h_ V vl,fun h_=>SlO 1 aj 0 h_ V zv,fun h_=>SlO 1 aj 0 h_ D y,fun h_=>SlO 1 aj 0 h_ A x]∧m≤x.length-y.length+1∧ul.length=x.length+1∧Wd ul∧ql.length=x.length-y.length+1∧Wd ql∧aA ul<18446744073709551616^m*aA vl∧aA zu=aA ql*aA vl+aA ul∧(∀ k,k<m→ql.getD k 0=0)) _ ⟨x.length-y.length+1,zu,List.replicate ((x.length-y.length)+1) 0,zD,rfl,rfl,hs.to _ _,nR _,hlu_,hWzu,zt,Wd.rep _,(by rw[hVu,hVvl];exact tf hx hy oM htop oM),(by show _=ak _ _*_+_;rw[dz,Nat.zero_mul,Nat.zero_add]),fun k _=>ej⟩ ?_);rintro _ _ _ ⟨m,ul,ql,_,hm18,rfl,hs,hm,hul,hWu,hql,hWq,hR,inv,hq0⟩;refine cQ (aa hs [.m 53 10] ?_);cases zd:(decide ((0:Int)≤((m:Int)-1:Int)))
 ·
  have zl:=oF zd;refine lB 54 zd (ah (CG.exit ?_))
  show CG _ _ _ _ _ _ _ _
  refine aE ?_;have hm0:m=0:=by omega
  obtain ⟨_,hs,sg21,lo22,bc23⟩:=hs.pub 0;replace hs:=(hs.to [⟨b5,22,(ul).flatMap aj⟩] []).aS (SlO.of_flat (sz:=1) (f:=aj) (d:=0) (b:=za) (o:=0) (l:=ql) (fun _=>rfl) sg21);obtain ⟨_,hs,sg26,lo27,bc28⟩:=hs.pub 0;replace hs:=(hs.to [] []).aS (SlO.of_flat (sz:=1) (f:=aj) (d:=0) (b:=b5) (o:=0) (l:=ul) (fun _=>rfl) sg26);refine lL hs [.m 187 4,.m 188 9,.m 189 6] (lT 190 (sB b5) (x.length+1) (x.length+1) 1 (y.length:Nat) y.length ?_);refine lL hs [.m 191 7] (lC 192 hs (xv (sB b5) (x.length+1) (ul.take y.length) y.length (by rw[List.length_take];omega) (Dg.take hWu _) (by rw[List.length_take];omega) (64-nb (y.getD (y.length-1) 0)) oM _ _ hs.g ((hs.f.1).take y.length)) ?_);rintro _ _ _ hs ⟨Ar,cr,zr,rfl,hcr,hlr,hWr,hVr,hFr⟩;replace hs:=hs.aS hFr;refine lL hs [.m 4 187,.m 5 192] (lN (kX ?_));rw[hm0,Nat.pow_zero,Nat.one_mul] at hR
  obtain ⟨hQ,hRm⟩:=AE hVvl hVu inv hR;rw[tE (v:=vl) oM oM hWvl hWu hR] at hVr
  exact hs.ret [] (.tuple #[qS (sB za) ((x.length-y.length)+1) ((x.length-y.length)+1),qS Ar zr.length cr]) (⟨_,_,ql,Ar,cr,zr,by rw[hql],by omega,hcr,hWq,hWr,hQ,hVr.trans hRm,by omega,(by have:=List.length_take_le y.length ul;omega),hs.f.r.1,hs.f.1⟩)
 have zl:=oT zd;refine lB 54 zd (ao (cK (cQ (kZ (cQ (cR 31 [] mixed hs av ?_))))));have hm1:0<m:=by omega
 have hn2:2≤vl.length:=by omega
 have hjn:m-1+vl.length<ul.length:=by omega
 have hR1:aA ul<18446744073709551616^(m-1+1)*aA vl:=by rw[show m-1+1=m by omega];exact hR
 have hle:=Br (n:=vl.length) (j:=m-1) hn2 rfl hWvl hWu hjn hR1;refine eV 0 57 (qS (sB b5) (x.length+1) (x.length+1)) (eV 1 58 (iV ((m:Int)-1)) (eV 2 59 (nV y.length) (jO 3 60 (((m:Int)-1)+(y.length:Nat)) (m-1+vl.length) (eX 4 61 (sB b5) (x.length+1) (x.length+1) 1 (m-1+vl.length:Nat) (m-1+vl.length) rfl (eQ 5 62 1 ul aj 1 0 (m-1+vl.length) (mV ((ul).getD (m-1+vl.length) 0)) hs oM (eV 6 63 (qS (sB b5) (x.length+1) (x.length+1)) (eV 7 64 (iV ((m:Int)-1)) (eV 8 65 (nV y.length) (jO 9 66 (((m:Int)-1)+(y.length:Nat)) (m-1+vl.length) (jO 10 67 ((m-1+vl.length:Nat)-1) (m-1+vl.length-1) (eX 11 68 (sB b5) (x.length+1) (x.length+1) 1 (m-1+vl.length-1:Nat) (m-1+vl.length-1) rfl (eQ 12 69 1 ul aj 1 0 (m-1+vl.length-1) (mV ((ul).getD (m-1+vl.length-1) 0)) hs oM (eV 13 70 (qS (sB b5) (x.length+1) (x.length+1)) (eV 14 71 (iV ((m:Int)-1)) (eV 15 72 (nV y.length) (jO 16 73 (((m:Int)-1)+(y.length:Nat)) (m-1+vl.length) (jO 17 74 ((m-1+vl.length:Nat)-2) (m-1+vl.length-2) (eX 18 75 (sB b5) (x.length+1) (x.length+1) 1 (m-1+vl.length-2:Nat) (m-1+vl.length-2) rfl (eQ 19 76 1 ul aj 1 0 (m-1+vl.length-2) (mV ((ul).getD (m-1+vl.length-2) 0)) hs oM (eV 20 77 (qS V y.length vc) (eV 21 78 (nV y.length) (jO 22 79 ((y.length:Nat)-1) (vl.length-1) (eX 23 80 V y.length vc 1 (vl.length-1:Nat) (vl.length-1) ((hs.f.2.1).ok oM) (eH 24 81 (mV (vl.getD (vl.length-1) 0)) hs ((hs.f.2.1).el (vl.length-1) oM) (eV 25 82 (qS V y.length vc) (eV 26 83 (nV y.length) (jO 27 84 ((y.length:Nat)-2) (vl.length-2) (eX 28 85 V y.length vc 1 (vl.length-2:Nat) (vl.length-2) ((hs.f.2.1).ok oM) (eH 29 86 (mV (vl.getD (vl.length-2) 0)) hs ((hs.f.2.1).el (vl.length-2) oM) (eC 30 87 hs (fun _ _ hs=>AW (((ul).getD (m-1+vl.length) 0)) (((ul).getD (m-1+vl.length-1) 0)) (((ul).getD (m-1+vl.length-2) 0)) ((vl.getD (vl.length-1) 0)) ((vl.getD (vl.length-2) 0)) (hWu.get _) (hWu.get _) (hWu.get _) (hWvl.get _) (hWvl.get _) hle oM _ _ hs.g) ?_))))))))))))))))))))))))))))));rintro _ _ _ _ _ hs ⟨g,rfl,hG0⟩;have hG:=qZ (n:=vl.length) (j:=m-1) hn2 rfl hWvl hWu hjn htopv hR1 hG0;have hgb:=hG0.2.2;refine cC hs (fun _ zE hs=>tV 31 11 (mV g) (tN (bQ [(4,qS (sB za) ((x.length-y.length)+1) ((x.length-y.length)+1)),(5,sZ),(6,nV y.length),(7,nV (64-nb (y.getD (y.length-1) 0))),(8,qS V y.length vc),(9,qS (sB b5) (x.length+1) (x.length+1)),(10,iV ((m:Int)-1)),(11,mV g)] ?_)));refine aa hs [.v 12 (uV 0),.v 13 (uV 0)] (af (aa hs [.m 88 6,.v 89 (iV 0)] (bn ?_)));refine bQ _ (CG.loop (fun μ_ Γ w_=>∃ (i:Nat) (u1:List Nat) (cy:Nat) (bo:Nat) (h_:Hp),μ_=y.length-i∧Γ=[(4,qS (sB za) ((x.length-y.length)+1) ((x.length-y.length)+1)),(5,sZ),(6,nV y.length),(7,nV (64-nb (y.getD (y.length-1) 0))),(8,qS V y.length vc),(9,qS (sB b5) (x.length+1) (x.length+1)),(10,iV ((m:Int)-1)),(11,mV g),(88,nV y.length),(89,nV i),(12,mV cy),(13,mV bo)]∧SS w h w_ h_ [⟨za,22,(ql).flatMap aj⟩,⟨b5,22,(u1).flatMap aj⟩] [] [fun h_=>SlO 1 aj 0 h_ Uo zu,fun h_=>SlO 1 aj 0 h_ V vl,fun h_=>SlO 1 aj 0 h_ V zv,fun h_=>SlO 1 aj 0 h_ D y,fun h_=>SlO 1 aj 0 h_ A x]∧i≤y.length∧u1.length=x.length+1∧Wd u1∧cy<18446744073709551616∧bo≤1∧ak 18446744073709551616 u1+18446744073709551616^(m-1)*(g*ak 18446744073709551616 (vl.take i))=aA ul+18446744073709551616^(m-1+i)*(cy+bo)∧Above u1 ul (m-1+vl.length+1)) _ ⟨0,ul,0,0,zE,rfl,rfl,hs.to _ _,Nat.zero_le _,hul,hWu,oM,oM,(by show ak _ ul+_=ak _ ul+_;simp[ak]),Above.refl _ _⟩ ?_);rintro _ _ _ ⟨i,u1,cy,bo,zq,hm38,rfl,hs,hi,hu1,hW1,hcy,hbo,inv1,hab1⟩;have hu1k:=hW1.get (m-1+i);have hvk:=hWvl.get i;refine aE ?_;cases ze:(decide ((i:Int)<(y.length:Int)))
 ·
  have zm:=oF ze;refine lB 90 ze (af (cw (CG.exit ?_)))
  show CG _ _ _ _ _ _ _ _
  refine aE ?_;rw[show i=vl.length by omega] at inv1
  have hu1n:=hW1.get (m-1+vl.length);refine lL hs [.m 129 9,.m 130 10,.m 131 6] (bH 132 (((m:Int)-1)+(y.length:Nat)) (m-1+vl.length) ?_);refine lL hs [.m 133 9,.m 134 10,.m 135 6] (bH 136 (((m:Int)-1)+(y.length:Nat)) (m-1+vl.length) ?_);refine lX 137 (sB b5) (x.length+1) (x.length+1) 1 (m-1+vl.length:Nat) (m-1+vl.length) rfl (lQ 138 1 u1 aj 1 0 (m-1+vl.length) (mV ((u1).getD (m-1+vl.length) 0)) hs oM (lL hs [.m 139 12,.m 140 13] ?_));obtain ⟨s40,zc,he42,hl43,hm44,hr45⟩:=f5 ((u1).getD (m-1+vl.length) 0) cy bo wM wM oM;refine lV 141 (.tuple #[mV s40,mV zc]) ?_ (hr:=ck kR (hr45 _));refine lL hs [.m 128 141,.v 142 (mV s40),.v 143 (mV zc)] (lX 144 (sB b5) (x.length+1) (x.length+1) 1 (m-1+vl.length:Nat) (m-1+vl.length) rfl ?_);refine lW 1 u1 aj 1 (m-1+vl.length) s40 hs oM (fun _ hs=>?_);have zk:((u1).set (m-1+vl.length) s40).length=(x.length+1):=by rw[List.length_set];exact hu1
  replace hs:=hs.to [⟨za,22,(ql).flatMap aj⟩,⟨b5,22,((u1).set (m-1+vl.length) s40).flatMap aj⟩] [];refine lL hs [.m 13 143] (af (aE ?_));have hE:=xU oM inv1 (s:=s40) (bo':=zc) oM;have hW4:Wd ((u1).set (m-1+vl.length) s40):=hW1.set _ oM;have hab4:=hab1.set (x:=s40) (show m-1+vl.length<m-1+vl.length+1 by omega) oM;refine lL hs [.m 145 13] ?_;cases zf:((zc:Int) != (0:Int))
  ·
   have zn:=az zf;refine lB 146 zf (ah (cK (kQ ?_)));have hD_:=wm hn2 rfl hWvl hWu hW4 hjn htopv hR1 hG hab4 (by rw[show zc=0 by omega] at hE;exact hE);have hDw:=hW4;have hDg:=hgb;have hDu:=hD_.1;have hDe:=hD_.2;refine lL hs [.m 183 4,.m 184 10,.m 185 11] (lX 186 (sB za) ((x.length-y.length)+1) ((x.length-y.length)+1) 1 ((m:Int)-1) (m-1) rfl ?_);refine lW 0 ql aj 1 (m-1) g hs oM (fun _ hs=>?_);have zw:((ql).set (m-1) g).length=((x.length-y.length)+1):=by rw[List.length_set];exact hql
   replace hs:=hs.to [⟨za,22,((ql).set (m-1) g).flatMap aj⟩,⟨b5,22,((u1).set (m-1+vl.length) s40).flatMap aj⟩] [];refine lN (kQ (lL hs [.m 55 10] (lV 56 (iV (((m-1:Nat):Int)-1)) ?_ (hr:=rS ((((m:Int)-1)-1)) kR ((eW oM oM).trans oM)))));refine lL hs [.m 10 56] (lD ?_);intro a_ ka;refine ⟨_,_,?_,⟨m-1,(u1).set (m-1+vl.length) s40,(ql).set (m-1) g,zq,rfl,rfl,hs.to _ _,oM,zk,hDw,zw,(hWq.set _ hDg),hDu,(sd oM (hq0 _ oM) inv hDe),(fun k hk=>by rw[bq oM,if_neg oM];exact hq0 k oM)⟩,ka.to _ kR⟩
   omega
  have zn:=aY zf;refine lB 146 zf (ao (aa hs [.m 147 11] ?_));have hE1:=hE;rw[show zc=1 by omega] at hE1
  have hgp:=Bq hn2 rfl hWvl hWu hW4 hjn htopv hR1 hG hab4 hE1;refine lV 148 (mV (g-1)) ?_ (hr:=rU (((g:Int)-(1:Int))) kR (dV g 1 oM oM));refine lL hs [.m 11 148] (aG (lL hs [.v 19 (uV 0)] (af (aa hs [.m 149 6,.v 150 (iV 0)] (bn ?_)))));refine bQ _ (CG.loop (fun μ_ Γ w_=>∃ (i2:Nat) (u2:List Nat) (c2:Nat) (h_:Hp),μ_=y.length-i2∧Γ=[(4,qS (sB za) ((x.length-y.length)+1) ((x.length-y.length)+1)),(5,sZ),(6,nV y.length),(7,nV (64-nb (y.getD (y.length-1) 0))),(8,qS V y.length vc),(9,qS (sB b5) (x.length+1) (x.length+1)),(10,iV ((m:Int)-1)),(11,mV (g-1)),(149,nV y.length),(150,nV i2),(19,mV c2)]∧SS w h w_ h_ [⟨za,22,(ql).flatMap aj⟩,⟨b5,22,(u2).flatMap aj⟩] [] [fun h_=>SlO 1 aj 0 h_ Uo zu,fun h_=>SlO 1 aj 0 h_ V vl,fun h_=>SlO 1 aj 0 h_ V zv,fun h_=>SlO 1 aj 0 h_ D y,fun h_=>SlO 1 aj 0 h_ A x]∧i2≤y.length∧u2.length=x.length+1∧Wd u2∧c2≤1∧ak 18446744073709551616 u2+18446744073709551616^(m-1+i2)*c2=ak 18446744073709551616 ((u1).set (m-1+vl.length) s40)+18446744073709551616^(m-1)*ak 18446744073709551616 (vl.take i2)∧Above u2 ul (m-1+vl.length+1)) _ ⟨0,(u1).set (m-1+vl.length) s40,0,zq,rfl,rfl,hs.to _ _,Nat.zero_le _,zk,hW4,oM,(by simp[ak]),hab4⟩ ?_);rintro _ _ _ ⟨i2,u2,c2,zG,hm61,rfl,hs,hi2,hu2,hW2,hc2,inv3,hab2⟩;have hu2k:=hW2.get (m-1+i2);have hvk2:=hWvl.get i2;refine aE ?_;cases zg:(decide ((i2:Int)<(y.length:Int)))
  ·
   have zo:=oF zg;refine lB 151 zg (af (cw (CG.exit ?_)))
   show CG _ _ _ _ _ _ _ _
   refine kQ (lL hs [.m 174 9,.m 175 10,.m 176 6] (bH 177 (((m:Int)-1)+(y.length:Nat)) (m-1+vl.length) ?_));refine lX 178 (sB b5) (x.length+1) (x.length+1) 1 (m-1+vl.length:Nat) (m-1+vl.length) rfl (lQ 179 1 u2 aj 1 0 (m-1+vl.length) (mV ((u2).getD (m-1+vl.length) 0)) hs oM (lL hs [.m 180 19] (lV 181 (mV ((((u2).getD (m-1+vl.length) 0)+c2)%18446744073709551616)) ?_ (hr:=rU (((((u2).getD (m-1+vl.length) 0:Nat):Int)+(c2:Int))) kR (tk ((u2).getD (m-1+vl.length) 0) c2)))));refine lX 182 (sB b5) (x.length+1) (x.length+1) 1 (m-1+vl.length:Nat) (m-1+vl.length) rfl (lW 1 u2 aj 1 (m-1+vl.length) ((((u2).getD (m-1+vl.length) 0)+c2)%18446744073709551616:Nat) hs oM (fun _ hs=>?_));have zx:((u2).set (m-1+vl.length) ((((u2).getD (m-1+vl.length) 0)+c2)%18446744073709551616:Nat)).length=(x.length+1):=by rw[List.length_set];exact hu2
   replace hs:=hs.to [⟨za,22,(ql).flatMap aj⟩,⟨b5,22,((u2).set (m-1+vl.length) ((((u2).getD (m-1+vl.length) 0)+c2)%18446744073709551616:Nat)).flatMap aj⟩] [];refine lN (kQ ?_);have hi2n:i2=vl.length:=by omega
   rw[hi2n] at inv3
   have hu2k:=hW2.get (m-1+vl.length);have hE3:=xV (s:=(u2.getD (m-1+vl.length) 0+c2)%18446744073709551616) (c':=(u2.getD (m-1+vl.length) 0+c2)/18446744073709551616) oM inv3 (Nat.mod_add_div _ _);have hDw:Wd ((u2).set (m-1+vl.length) ((((u2).getD (m-1+vl.length) 0)+c2)%18446744073709551616:Nat)):=hW2.set _ (Nat.mod_lt _ kD);obtain ⟨hDu,hDe,hDp⟩:=Ao hn2 rfl hWvl hWu hW4 hDw hjn htopv hR1 hG hab4 (hab2.set oM oM) hE1 hE3;have hDg:g-1<18446744073709551616:=by omega
   refine lL hs [.m 183 4,.m 184 10,.m 185 11] (lX 186 (sB za) ((x.length-y.length)+1) ((x.length-y.length)+1) 1 ((m:Int)-1) (m-1) rfl ?_);refine lW 0 ql aj 1 (m-1) (g-1) hs oM (fun _ hs=>?_);have zA:((ql).set (m-1) (g-1)).length=((x.length-y.length)+1):=by rw[List.length_set];exact hql
   replace hs:=hs.to [⟨za,22,((ql).set (m-1) (g-1)).flatMap aj⟩,⟨b5,22,((u2).set (m-1+vl.length) ((((u2).getD (m-1+vl.length) 0)+c2)%18446744073709551616:Nat)).flatMap aj⟩] [];refine lN (kQ (lL hs [.m 55 10] (lV 56 (iV (((m-1:Nat):Int)-1)) ?_ (hr:=rS ((((m:Int)-1)-1)) kR ((eW oM oM).trans oM)))));refine lL hs [.m 10 56] (lD ?_);intro a_ ka;refine ⟨_,_,?_,⟨m-1,(u2).set (m-1+vl.length) ((((u2).getD (m-1+vl.length) 0)+c2)%18446744073709551616:Nat),(ql).set (m-1) (g-1),zG,rfl,rfl,hs.to _ _,oM,zx,hDw,zA,(hWq.set _ hDg),hDu,(sd oM (hq0 _ oM) inv hDe),(fun k hk=>by rw[bq oM,if_neg oM];exact hq0 k oM)⟩,ka.to _ kR⟩
   omega
  have zo:=oT zg;refine lB 151 zg (af (ce (cK (cQ (kZ (aa hs [.m 152 150,.m 20 152] (lN (cR 19 [] mixed hs av ?_))))))));refine eV 0 154 (qS (sB b5) (x.length+1) (x.length+1)) (eV 1 155 (iV ((m:Int)-1)) (eV 2 156 (nV i2) (jO 3 157 (((m:Int)-1)+(i2:Nat)) (m-1+i2) (eV 4 158 (qS (sB b5) (x.length+1) (x.length+1)) (eV 5 159 (iV ((m:Int)-1)) (eV 6 160 (nV i2) (jO 7 161 (((m:Int)-1)+(i2:Nat)) (m-1+i2) (eX 8 162 (sB b5) (x.length+1) (x.length+1) 1 (m-1+i2:Nat) (m-1+i2) rfl (eQ 9 163 1 u2 aj 1 0 (m-1+i2) (mV ((u2).getD (m-1+i2) 0)) hs oM (eV 10 164 (qS V y.length vc) (eV 11 165 (nV i2) (eX 12 166 V y.length vc 1 (i2:Nat) i2 ((hs.f.2.1).ok oM) (eH 13 167 (mV (vl.getD i2 0)) hs ((hs.f.2.1).el i2 oM) (eV 14 168 (mV c2) ?_))))))))))))));obtain ⟨s75,zj,he77,hl78,hm79,hr80⟩:=cf ((u2).getD (m-1+i2) 0) (vl.getD i2 0) c2 wM wM oM;refine eV 15 169 (.tuple #[mV s75,mV zj]) ?_ (hv:=fun _=>ck kR (hr80 _));refine eV 16 153 (.tuple #[mV s75,mV zj]) (eV 17 170 (mV s75) (eV 18 171 (mV zj) (cC hs (fun _ zH hs=>tX 19 172 (sB b5) (x.length+1) (x.length+1) 1 (m-1+i2:Nat) (m-1+i2) rfl (tW 20 1 u2 aj 1 (m-1+i2) s75 hs oM (fun _ hs=>?_))))));have zB:((u2).set (m-1+i2) s75).length=(x.length+1):=by rw[List.length_set];exact hu2
  replace hs:=hs.to [⟨za,22,(ql).flatMap aj⟩,⟨b5,22,((u2).set (m-1+i2) s75).flatMap aj⟩] [];refine tV 21 19 (mV zj) (tN (kQ (bH 173 ((i2:Nat)+1) (i2+1) ?_)));refine lL hs [.m 150 173] (lD ?_);intro a_ ka;refine ⟨_,_,?_,⟨i2+1,(u2).set (m-1+i2) s75,zj,zH,rfl,rfl,hs.to _ _,oM,zB,(hW2.set _ oM),oM,(uD oM inv3 oM),(hab2.set oM oM)⟩,ka.to _ kR⟩
  omega
 have zm:=oT ze;refine lB 90 ze (af (ce (cK (cQ (kZ (aa hs [.m 91 89,.m 14 91] (aG (lL hs [.m 93 11,.m 94 8,.m 95 14] (lX 96 V y.length vc 1 (i:Nat) i ((hs.f.2.1).ok oM) ?_)))))))));refine lH 97 (mV (vl.getD i 0)) hs ((hs.f.2.1).el i oM) (lC 98 hs (ju g (vl.getD i 0) wM wM _ _ hs.g) ?_);rintro _ _ zI hs ⟨s91,zs,rfl,he93,hl94,hm95,hn96⟩;have hxhe93:=fF (a:=g) (b:=(vl.getD i 0)) wM wM;refine lL hs [.m 92 98,.v 99 (mV s91),.v 100 (mV zs),.m 15 99,.m 16 100] (aG (lL hs [.m 102 16,.m 103 12] ?_));obtain ⟨s99,zb,he101,hl102,hm103,hr104⟩:=cf zs cy 0 wM wM oM;refine lV 104 (.tuple #[mV s99,mV zb]) ?_ (hr:=ck kR (hr104 _));refine lL hs [.m 101 104,.v 105 (mV s99),.v 106 (mV zb),.m 17 105,.m 18 106] (aG (lL hs [.m 107 15,.m 108 18] (lV 109 (mV (s91+zb)) ?_ (hr:=rU (((s91:Int)+(zb:Int))) kR (e9 s91 zb oM)))));refine lL hs [.m 12 109] (lN (kQ (lL hs [.m 111 9,.m 112 10,.m 113 14] (bH 114 (((m:Int)-1)+(i:Nat)) (m-1+i) ?_))));refine lL hs [.m 115 9,.m 116 10,.m 117 14] (bH 118 (((m:Int)-1)+(i:Nat)) (m-1+i) ?_);refine lX 119 (sB b5) (x.length+1) (x.length+1) 1 (m-1+i:Nat) (m-1+i) rfl (lQ 120 1 u1 aj 1 0 (m-1+i) (mV ((u1).getD (m-1+i) 0)) hs oM (lL hs [.m 121 17,.m 122 13] ?_));obtain ⟨s105,zi,he107,hl108,hm109,hr110⟩:=f5 ((u1).getD (m-1+i) 0) s99 bo wM wM oM;refine lV 123 (.tuple #[mV s105,mV zi]) ?_ (hr:=ck kR (hr110 _));refine lL hs [.m 110 123,.v 124 (mV s105),.v 125 (mV zi)] (lX 126 (sB b5) (x.length+1) (x.length+1) 1 (m-1+i:Nat) (m-1+i) rfl ?_);refine lW 1 u1 aj 1 (m-1+i) s105 hs oM (fun _ hs=>?_);have zp:((u1).set (m-1+i) s105).length=(x.length+1):=by rw[List.length_set];exact hu1
 replace hs:=hs.to [⟨za,22,(ql).flatMap aj⟩,⟨b5,22,((u1).set (m-1+i) s105).flatMap aj⟩] [];refine lL hs [.m 13 125] (lN (bQ [(4,qS (sB za) ((x.length-y.length)+1) ((x.length-y.length)+1)),(5,sZ),(6,nV y.length),(7,nV (64-nb (y.getD (y.length-1) 0))),(8,qS V y.length vc),(9,qS (sB b5) (x.length+1) (x.length+1)),(10,iV ((m:Int)-1)),(11,mV g),(88,nV y.length),(89,nV i),(12,mV (s91+zb)),(13,mV zi)] ?_));refine kQ (bH 127 ((i:Nat)+1) (i+1) ?_);refine lL hs [.m 89 127] (lD ?_);intro a_ ka;refine ⟨_,_,?_,⟨i+1,(u1).set (m-1+i) s105,(s91+zb),zi,zI,rfl,rfl,hs.to _ _,oM,zp,(hW1.set _ oM),oM,oM,(v6 (t:=s99) oM inv1 oM oM),(hab1.set oM oM)⟩,ka.to _ kR⟩
 omega
theorem bR (A:Option Addr)(c:Nat)(l:List Nat)(m x:Nat)(hm:l.length=m)(hd:Wd l)(hv:aA l=x)(hl:l.length≤1099511627776)(hc:l.length≤c)(w:World)(h:Hp)(g:G w h)(hA:SlO 1 aj 0 h A l):CV 126 #[.slice A m c] w h (nv x):=by
 subst hm hv;exact sP A c l hd hl hc w h g hA
theorem B4 (a b:Nat)(hla:(wds a).length≤1000000000)(hlb:(wds b).length≤1000000000)(has:a<18446744073709551616)(hbs:b<18446744073709551616)(w:World)(h:Hp)(g:G w h):CV 120 #[nv a,nv b] w h (nv (a+b)):=by
 have hs:=sS g;have ham:=Nat.mod_eq_of_lt has;have hbm:=Nat.mod_eq_of_lt hbs;refine go Tryz.func120 [(0,nv a),(1,nv b)] rfl (aE (lA 2 24 (nc a) hs (fun b1 w2 h3 hs=>lA 3 24 (nc b) hs (fun b4 w5 h6 hs=>lA 4 24 ([uV 0,eS]) hs (fun b7 w8 h9 hs=>af (aa hs [.v 12 (qP b1 1),.o 13 (.string (hi a)) 2 1 1] (lV 14 qT ?_ (hr:=rb kR (f9 (de has))))))))));refine lL hs [.m 15 14,.v 16 (qP b4 1),.o 17 (.string (hi b)) 1 1 1] (lV 18 qT ?_ (hr:=rb kR (f9 (de hbs))));refine lL hs [.v 19 qT] (ao (aa hs [.v 21 (pB b1),.o 22 (mV (a%18446744073709551616)) 2 0 1,.v 23 (pB b4),.o 24 (mV (b%18446744073709551616)) 1 0 1] ?_));obtain ⟨s10,za,he12,hl13,hm14,hr15⟩:=cf (a%18446744073709551616) (b%18446744073709551616) 0 wM wM oM;refine lV 25 (.tuple #[mV s10,mV za]) ?_ (hr:=ck kR (hr15 _));refine lL hs [.m 20 25,.v 26 (mV s10),.v 27 (mV za),.m 5 26,.m 6 27] (af (aa hs [.m 28 6] ?_));cases zb:((za:Int) == (0:Int))
 ·
  have zc:=ai zb;refine lB 29 zb (ah (cK (aa hs [.m 32 5,.m 33 6] (lR 34 22 2 ([mV s10,mV za]) hs (fun zd _ _ hs=>?_)))));replace hs:=hs.aS (SlO.of_flat (sz:=1) (f:=aj) (d:=0) (l:=[s10,za]) (fun _=>rfl) hs.f.1);exact ag 35 hs (bR (sB zd) 2 ([s10,za]) 2 ((a+b)) (by first|rfl|assumption|(simp;done)|(simp;omega)|omega) (Dg.cons oM (Dg.one oM)) (by show s10+18446744073709551616*(za+18446744073709551616*0)=a+b;omega) sM sM _ _ hs.g hs.f.1) (fun _ _ hs=>lP 0 0 (nc (a+b)) hs (fun _ hs=>ac hs [(0,0,2)] (nv (a+b)) rfl))
 have zc:=eq_of_beq zb;exact lB 29 zb (ao (aa hs [.m 30 5,.v 31 (.agg #[mV s10,eS])] (lP 0 0 ([mV s10,eS]) hs (fun _ hs=>ac hs [(0,0,2)] (.agg #[mV s10,eS]) (by rw[show s10=a+b by omega];exact gf oM)))))
theorem Da (a b:Nat)(hla:(wds a).length≤1000000000)(hlb:(wds b).length≤1000000000)(has:18446744073709551616≤a)(hb0:0<b)(w:World)(h:Hp)(g:G w h):CV 120 #[nv a,nv b] w h (nv (a+b)):=by
 have hs:=sS g;refine go Tryz.func120 [(0,nv a),(1,nv b)] rfl (aE (lA 2 24 (nc a) hs (fun b1 w2 h3 hs=>lA 3 24 (nc b) hs (fun b4 w5 h6 hs=>lA 4 24 ([uV 0,eS]) hs (fun b7 w8 h9 hs=>af (aa hs [.v 12 (qP b1 1),.o 13 (.string (hi a)) 2 1 1] (lV 14 qF ?_ (hr:=rb kR (fS (dC has))))))))));refine lL hs [.m 15 14] (lG 16 ?_);refine lG 17 (lG 18 (lL hs [.v 19 qF] (ah (cK (cQ ?_)))));obtain ⟨K_,hK_⟩:∃ K_,K_=w8.heap.size:=⟨_,rfl⟩;have hk_b7:b7<K_:=by rw[hK_];exact dw hs 0
 have hk_b4:b4<K_:=by rw[hK_];exact dw hs 1
 have hk_b1:b1<K_:=by rw[hK_];exact dw hs 2
 refine rL ⟨[],some (K_,[])⟩ 0 mixed ?_;have hszK:=hs.g.size;replace hs:=hs.drew;have hKl:=Nat.le_of_eq hK_;refine zO 0 36 [(2,0,2)] (nv a) rfl hKl hs (fun p hp=>by obtain rfl:=List.mem_singleton.1 hp;exact hk_b1) (zO 2 38 [(1,0,2)] (nv b) rfl hKl hs (fun p hp=>by obtain rfl:=List.mem_singleton.1 hp;exact hk_b4) (nu 1 37 (du a oM oM _ _ hs.g) rfl hKl ?_));rintro _ _ _ u12 hKl ⟨bw1,rfl,hlo1,hbc1,hsl1⟩;obtain ⟨_,hs,-,-⟩:=hs.take u12 hlo1 hbc1;replace hs:=hs.to [⟨bw1,22,(wds a).flatMap aj⟩,⟨b7,24,[uV 0,eS]⟩,⟨b4,24,nc b⟩,⟨b1,24,nc a⟩] [];refine nu 3 39 (du b oM oM _ _ hs.g) rfl hKl ?_;rintro _ _ _ u16 hKl ⟨bw2,rfl,hlo2,hbc2,hsl2⟩;obtain ⟨zv,hs,-,-⟩:=hs.take u16 hlo2 hbc2;replace hs:=hs.to [⟨bw2,22,(wds b).flatMap aj⟩,⟨bw1,22,(wds a).flatMap aj⟩,⟨b7,24,[uV 0,eS]⟩,⟨b4,24,nc b⟩,⟨b1,24,nc a⟩] [];refine zV 4 7 (qS (sB bw1) ((wds a).length) ((wds a).length)) (zV 5 8 (qS (sB bw2) ((wds b).length) ((wds b).length)) (tN (cQ (aa hs [.m 40 7,.v 41 (nV ((wds a).length)),.m 42 8,.v 43 (nV ((wds b).length))] ?_))));cases za:(decide ((((wds a).length:Nat):Int)<(((wds b).length:Nat):Int)))
 ·
  have zm:=oF za;refine lB 44 za (ah (cK (aa hs [.v 9 (uV 0)] (af (aa hs [.m 47 7,.v 48 (nV ((wds a).length)),.v 49 (iV 0)] (bn ?_))))));refine bQ _ (CG.loop (fun μ_ Γ w_=>∃ (i:Nat) (l:List Nat) (cy:Nat) (h_:Hp),μ_=(wds a).length-i∧Γ=[(4,pB b7),(7,qS (sB bw1) ((wds a).length) ((wds a).length)),(8,qS (sB bw2) ((wds b).length) ((wds b).length)),(48,nV ((wds a).length)),(49,nV i),(9,mV cy)]∧SS w h w_ h_ [⟨bw2,22,(wds b).flatMap aj⟩,⟨bw1,22,(l).flatMap aj⟩,⟨b7,24,[uV 0,eS]⟩,⟨b4,24,nc b⟩,⟨b1,24,nc a⟩] [] []∧i≤(wds a).length∧l.length=(wds a).length∧Wd l∧cy≤1∧ak 18446744073709551616 l+18446744073709551616^i*cy=a+ak 18446744073709551616 ((wds b:List Nat).take i)) _ ⟨0,wds a,0,zv,rfl,rfl,hs.to _ _,Nat.zero_le _,rfl,Wd.wds _,oM,(by have hx_:ak 18446744073709551616 (wds a)=a:=aI _;rw[hx_];simp[ak])⟩ ?_);rintro _ _ _ ⟨i,l,cy,zw,hm21,rfl,hs,hi,hll,hW,hcy,inv⟩;have hlk:=hW.get i;have hyk:=(Wd.wds b).get i;refine aE ?_;cases zb:(decide ((i:Int)<(((wds a).length:Nat):Int)))
  ·
   have zn:=oF zb;refine lB 50 zb (af (cw (CG.exit ?_)))
   show CG _ _ _ _ _ _ _ _
   refine cQ (aE ?_);have hE:=inv;rw[List.take_of_length_le (show (wds b).length≤i by first|omega|(simp;done)|(simp;omega))] at hE
   rw[show i=l.length by omega] at hE
   have hE_:ak 18446744073709551616 (wds b)=b:=aI _;replace hE:ak 18446744073709551616 l+18446744073709551616^l.length*cy=(a+b):=by rw[hE,hE_];first|done|omega
   refine lL hs [.m 74 9] ?_;cases zc:((cy:Int) != (0:Int))
   ·
    have zo:=az zc;refine lB 75 zc (ah (cK (aE ?_)));obtain ⟨_,hs,sg25,lo26,bc27⟩:=hs.pub 1;replace hs:=(hs.to [⟨bw2,22,(wds b).flatMap aj⟩,⟨b7,24,[uV 0,eS]⟩,⟨b4,24,nc b⟩,⟨b1,24,nc a⟩] []).aS (SlO.of_flat (sz:=1) (f:=aj) (d:=0) (b:=bw1) (o:=0) (l:=l) (fun _=>rfl) sg25);exact lL hs [.m 80 7] (ag 81 hs (bR (sB bw1) ((wds a).length) (l) ((wds a).length) ((a+b)) (by first|rfl|assumption|(simp;done)|(simp;omega)|omega) (hW) (by rw[show cy=0 by omega,Nat.mul_zero,Nat.add_zero] at hE;exact hE) sM sM _ _ hs.g hs.f.1) (fun _ _ hs=>lP 1 0 (nc (a+b)) hs (fun _ hs=>ac hs [(1,0,2)] (nv (a+b)) rfl)))
   have zo:=aY zc;refine lB 75 zc (ao (kQ (lL hs [.m 76 7,.m 77 9] (lR 78 22 1 ([mV cy]) hs (fun zD _ _ hs=>BP 79 1 ((wds a).length) zD l aj 0 cy 8 (uV 0) hs hs.f.1 oM oM (fun zE zG _ _ hs hcc41=>?_))))));replace hs:=hs.to [⟨bw2,22,(wds b).flatMap aj⟩,⟨b7,24,[uV 0,eS]⟩,⟨b4,24,nc b⟩,⟨b1,24,nc a⟩] [];exact lL hs [.m 7 79] (aG (lL hs [.m 80 7] (ag 81 hs (bR zE zG (l++[cy]) ((wds a).length+1) ((a+b)) (by first|rfl|assumption|(simp;done)|(simp;omega)|omega) (Dg.append hW (Dg.one oM)) (by show ak _ (l++[cy])=_;rw[co];show _+_*(cy+_*0)=_;rw[Nat.mul_zero,Nat.add_zero];exact hE) sM sM _ _ hs.g hs.f.1) (fun _ _ hs=>lP 1 0 (nc (a+b)) hs (fun _ hs=>ac hs [(1,0,2)] (nv (a+b)) rfl)))))
  have zn:=oT zb;refine lB 50 zb (af (ce (cK (cQ (kZ (aa hs [.m 51 49,.m 10 51] (aG (lL hs [.v 11 (uV 0)] (af (aa hs [.m 52 10,.m 53 8,.v 54 (nV ((wds b).length))] ?_))))))))));cases zd:(decide ((i:Int)<(((wds b).length:Nat):Int)))
  ·
   have zp:=oF zd;refine lB 55 zd (ah (cK (kQ (lL hs [.m 61 7,.m 62 10,.m 63 7,.m 64 10] (lX 65 (sB bw1) ((wds a).length) ((wds a).length) 1 (i:Nat) i rfl ?_)))));refine lQ 66 1 l aj 1 0 i (mV ((l).getD i 0)) hs oM (lL hs [.m 67 11,.m 68 9] ?_);obtain ⟨s46,zk,he48,hl49,hm50,hr51⟩:=cf ((l).getD i 0) 0 cy wM wM oM;refine lV 69 (.tuple #[mV s46,mV zk]) ?_ (hr:=ck kR (hr51 _));refine lL hs [.m 60 69,.v 70 (mV s46),.v 71 (mV zk)] (lX 72 (sB bw1) ((wds a).length) ((wds a).length) 1 (i:Nat) i rfl ?_);refine lW 1 l aj 1 i s46 hs oM (fun _ hs=>?_);have zA:((l).set i s46).length=(wds a).length:=by rw[List.length_set];exact hll
   replace hs:=hs.to [⟨bw2,22,(wds b).flatMap aj⟩,⟨bw1,22,((l).set i s46).flatMap aj⟩,⟨b7,24,[uV 0,eS]⟩,⟨b4,24,nc b⟩,⟨b1,24,nc a⟩] [];refine lL hs [.m 9 71] (lN (kQ (bH 73 ((i:Nat)+1) (i+1) ?_)));refine lL hs [.m 49 73] (lD ?_);intro a_ ka;refine ⟨_,_,?_,⟨i+1,(l).set i s46,zk,zw,rfl,rfl,hs.to _ _,oM,zA,(hW.set _ oM),oM,(cO oM inv (by first|omega|(have hy0:=bC (l:=(wds b:List Nat)) (k:=i) (by first|omega|(simp;done));omega)))⟩,ka.to _ kR⟩
   omega
  have zp:=oT zd;refine lB 55 zd (ao (kQ (lL hs [.m 56 8,.m 57 10] (lX 58 (sB bw2) ((wds b).length) ((wds b).length) 1 (i:Nat) i rfl ?_))));refine lQ 59 0 (wds b) aj 1 0 i (mV ((wds b).getD i 0)) hs oM (lL hs [.m 11 59] (lN (kQ (lL hs [.m 61 7,.m 62 10,.m 63 7,.m 64 10] (lX 65 (sB bw1) ((wds a).length) ((wds a).length) 1 (i:Nat) i rfl ?_)))));refine lQ 66 1 l aj 1 0 i (mV ((l).getD i 0)) hs oM (lL hs [.m 67 11,.m 68 9] ?_);obtain ⟨s59,zl,he61,hl62,hm63,hr64⟩:=cf ((l).getD i 0) ((wds b).getD i 0) cy wM wM oM;refine lV 69 (.tuple #[mV s59,mV zl]) ?_ (hr:=ck kR (hr64 _));refine lL hs [.m 60 69,.v 70 (mV s59),.v 71 (mV zl)] (lX 72 (sB bw1) ((wds a).length) ((wds a).length) 1 (i:Nat) i rfl ?_);refine lW 1 l aj 1 i s59 hs oM (fun _ hs=>?_);have zB:((l).set i s59).length=(wds a).length:=by rw[List.length_set];exact hll
  replace hs:=hs.to [⟨bw2,22,(wds b).flatMap aj⟩,⟨bw1,22,((l).set i s59).flatMap aj⟩,⟨b7,24,[uV 0,eS]⟩,⟨b4,24,nc b⟩,⟨b1,24,nc a⟩] [];refine lL hs [.m 9 71] (lN (kQ (bH 73 ((i:Nat)+1) (i+1) ?_)));refine lL hs [.m 49 73] (lD ?_);intro a_ ka;refine ⟨_,_,?_,⟨i+1,(l).set i s59,zl,zw,rfl,rfl,hs.to _ _,oM,zB,(hW.set _ oM),oM,(cO oM inv (by first|omega|(have hy0:=bC (l:=(wds b:List Nat)) (k:=i) (by first|omega|(simp;done));omega)))⟩,ka.to _ kR⟩
  omega
 have zm:=oT za;refine lB 44 za (ao (kQ (lL hs [.m 45 8,.m 46 7,.m 7 45,.m 8 46] (aG (lL hs [.v 9 (uV 0)] (af (aa hs [.m 47 7,.v 48 (nV ((wds b).length)),.v 49 (iV 0)] (bn ?_))))))));refine bQ _ (CG.loop (fun μ_ Γ w_=>∃ (i:Nat) (l:List Nat) (cy:Nat) (h_:Hp),μ_=(wds b).length-i∧Γ=[(4,pB b7),(7,qS (sB bw2) ((wds b).length) ((wds b).length)),(8,qS (sB bw1) ((wds a).length) ((wds a).length)),(48,nV ((wds b).length)),(49,nV i),(9,mV cy)]∧SS w h w_ h_ [⟨bw2,22,(l).flatMap aj⟩,⟨bw1,22,(wds a).flatMap aj⟩,⟨b7,24,[uV 0,eS]⟩,⟨b4,24,nc b⟩,⟨b1,24,nc a⟩] [] []∧i≤(wds b).length∧l.length=(wds b).length∧Wd l∧cy≤1∧ak 18446744073709551616 l+18446744073709551616^i*cy=b+ak 18446744073709551616 ((wds a:List Nat).take i)) _ ⟨0,wds b,0,zv,rfl,rfl,hs.to _ _,Nat.zero_le _,rfl,Wd.wds _,oM,(by have hx_:ak 18446744073709551616 (wds b)=b:=aI _;rw[hx_];simp[ak])⟩ ?_);rintro _ _ _ ⟨i,l,cy,zx,hm74,rfl,hs,hi,hll,hW,hcy,inv⟩;have hlk:=hW.get i;have hyk:=(Wd.wds a).get i;refine aE ?_;cases ze:(decide ((i:Int)<(((wds b).length:Nat):Int)))
 ·
  have zq:=oF ze;refine lB 50 ze (af (cw (CG.exit ?_)))
  show CG _ _ _ _ _ _ _ _
  refine cQ (aE ?_);have hE:=inv;rw[List.take_of_length_le (show (wds a).length≤i by first|omega|(simp;done)|(simp;omega))] at hE
  rw[show i=l.length by omega] at hE
  have hE_:ak 18446744073709551616 (wds a)=a:=aI _;replace hE:ak 18446744073709551616 l+18446744073709551616^l.length*cy=(a+b):=by rw[hE,hE_];first|done|omega
  refine lL hs [.m 74 9] ?_;cases zf:((cy:Int) != (0:Int))
  ·
   have zr:=az zf;refine lB 75 zf (ah (cK (aE ?_)));obtain ⟨_,hs,sg78,lo79,bc80⟩:=hs.pub 0;replace hs:=(hs.to [⟨bw1,22,(wds a).flatMap aj⟩,⟨b7,24,[uV 0,eS]⟩,⟨b4,24,nc b⟩,⟨b1,24,nc a⟩] []).aS (SlO.of_flat (sz:=1) (f:=aj) (d:=0) (b:=bw2) (o:=0) (l:=l) (fun _=>rfl) sg78);exact lL hs [.m 80 7] (ag 81 hs (bR (sB bw2) ((wds b).length) (l) ((wds b).length) ((a+b)) (by first|rfl|assumption|(simp;done)|(simp;omega)|omega) (hW) (by rw[show cy=0 by omega,Nat.mul_zero,Nat.add_zero] at hE;exact hE) sM sM _ _ hs.g hs.f.1) (fun _ _ hs=>lP 1 0 (nc (a+b)) hs (fun _ hs=>ac hs [(1,0,2)] (nv (a+b)) rfl)))
  have zr:=aY zf;refine lB 75 zf (ao (kQ (lL hs [.m 76 7,.m 77 9] (lR 78 22 1 ([mV cy]) hs (fun zH _ _ hs=>BP 79 0 ((wds b).length) zH l aj 0 cy 8 (uV 0) hs hs.f.1 oM oM (fun zI zJ _ _ hs hcc94=>?_))))));replace hs:=hs.to [⟨bw1,22,(wds a).flatMap aj⟩,⟨b7,24,[uV 0,eS]⟩,⟨b4,24,nc b⟩,⟨b1,24,nc a⟩] [];exact lL hs [.m 7 79] (aG (lL hs [.m 80 7] (ag 81 hs (bR zI zJ (l++[cy]) ((wds b).length+1) ((a+b)) (by first|rfl|assumption|(simp;done)|(simp;omega)|omega) (Dg.append hW (Dg.one oM)) (by show ak _ (l++[cy])=_;rw[co];show _+_*(cy+_*0)=_;rw[Nat.mul_zero,Nat.add_zero];exact hE) sM sM _ _ hs.g hs.f.1) (fun _ _ hs=>lP 1 0 (nc (a+b)) hs (fun _ hs=>ac hs [(1,0,2)] (nv (a+b)) rfl)))))
 have zq:=oT ze;refine lB 50 ze (af (ce (cK (cQ (kZ (aa hs [.m 51 49,.m 10 51] (aG (lL hs [.v 11 (uV 0)] (af (aa hs [.m 52 10,.m 53 8,.v 54 (nV ((wds a).length))] ?_))))))))));cases zg:(decide ((i:Int)<(((wds a).length:Nat):Int)))
 ·
  have zs:=oF zg;refine lB 55 zg (ah (cK (kQ (lL hs [.m 61 7,.m 62 10,.m 63 7,.m 64 10] (lX 65 (sB bw2) ((wds b).length) ((wds b).length) 1 (i:Nat) i rfl ?_)))));refine lQ 66 0 l aj 1 0 i (mV ((l).getD i 0)) hs oM (lL hs [.m 67 11,.m 68 9] ?_);obtain ⟨s99,zi,he101,hl102,hm103,hr104⟩:=cf ((l).getD i 0) 0 cy wM wM oM;refine lV 69 (.tuple #[mV s99,mV zi]) ?_ (hr:=ck kR (hr104 _));refine lL hs [.m 60 69,.v 70 (mV s99),.v 71 (mV zi)] (lX 72 (sB bw2) ((wds b).length) ((wds b).length) 1 (i:Nat) i rfl ?_);refine lW 0 l aj 1 i s99 hs oM (fun _ hs=>?_);have zt:((l).set i s99).length=(wds b).length:=by rw[List.length_set];exact hll
  replace hs:=hs.to [⟨bw2,22,((l).set i s99).flatMap aj⟩,⟨bw1,22,(wds a).flatMap aj⟩,⟨b7,24,[uV 0,eS]⟩,⟨b4,24,nc b⟩,⟨b1,24,nc a⟩] [];refine lL hs [.m 9 71] (lN (kQ (bH 73 ((i:Nat)+1) (i+1) ?_)));refine lL hs [.m 49 73] (lD ?_);intro a_ ka;refine ⟨_,_,?_,⟨i+1,(l).set i s99,zi,zx,rfl,rfl,hs.to _ _,oM,zt,(hW.set _ oM),oM,(cO oM inv (by first|omega|(have hy0:=bC (l:=(wds a:List Nat)) (k:=i) (by first|omega|(simp;done));omega)))⟩,ka.to _ kR⟩
  omega
 have zs:=oT zg;refine lB 55 zg (ao (kQ (lL hs [.m 56 8,.m 57 10] (lX 58 (sB bw1) ((wds a).length) ((wds a).length) 1 (i:Nat) i rfl ?_))));refine lQ 59 1 (wds a) aj 1 0 i (mV ((wds a).getD i 0)) hs oM (lL hs [.m 11 59] (lN (kQ (lL hs [.m 61 7,.m 62 10,.m 63 7,.m 64 10] (lX 65 (sB bw2) ((wds b).length) ((wds b).length) 1 (i:Nat) i rfl ?_)))));refine lQ 66 0 l aj 1 0 i (mV ((l).getD i 0)) hs oM (lL hs [.m 67 11,.m 68 9] ?_);obtain ⟨s112,zj,he114,hl115,hm116,hr117⟩:=cf ((l).getD i 0) ((wds a).getD i 0) cy wM wM oM;refine lV 69 (.tuple #[mV s112,mV zj]) ?_ (hr:=ck kR (hr117 _));refine lL hs [.m 60 69,.v 70 (mV s112),.v 71 (mV zj)] (lX 72 (sB bw2) ((wds b).length) ((wds b).length) 1 (i:Nat) i rfl ?_);refine lW 0 l aj 1 i s112 hs oM (fun _ hs=>?_);have zu:((l).set i s112).length=(wds b).length:=by rw[List.length_set];exact hll
 replace hs:=hs.to [⟨bw2,22,((l).set i s112).flatMap aj⟩,⟨bw1,22,(wds a).flatMap aj⟩,⟨b7,24,[uV 0,eS]⟩,⟨b4,24,nc b⟩,⟨b1,24,nc a⟩] [];refine lL hs [.m 9 71] (lN (kQ (bH 73 ((i:Nat)+1) (i+1) ?_)));refine lL hs [.m 49 73] (lD ?_);intro a_ ka;refine ⟨_,_,?_,⟨i+1,(l).set i s112,zj,zx,rfl,rfl,hs.to _ _,oM,zu,(hW.set _ oM),oM,(cO oM inv (by first|omega|(have hy0:=bC (l:=(wds a:List Nat)) (k:=i) (by first|omega|(simp;done));omega)))⟩,ka.to _ kR⟩
 omega
theorem B5 (a b:Nat)(hla:(wds a).length≤1000000000)(hlb:(wds b).length≤1000000000)(has:a<18446744073709551616)(ha0:0<a)(hbs:18446744073709551616≤b)(w:World)(h:Hp)(g:G w h):CV 120 #[nv a,nv b] w h (nv (a+b)):=by
 have hs:=sS g;refine go Tryz.func120 [(0,nv a),(1,nv b)] rfl (aE (lA 2 24 (nc a) hs (fun b1 w2 h3 hs=>lA 3 24 (nc b) hs (fun b4 w5 h6 hs=>lA 4 24 ([uV 0,eS]) hs (fun b7 w8 h9 hs=>af (aa hs [.v 12 (qP b1 1),.o 13 (.string (hi a)) 2 1 1] (lV 14 qT ?_ (hr:=rb kR (f9 (de has))))))))));refine lL hs [.m 15 14,.v 16 (qP b4 1),.o 17 (.string (hi b)) 1 1 1] (lV 18 qF ?_ (hr:=rb kR (fS (dC hbs))));refine lL hs [.v 19 qF] (ah (cK (cQ ?_)));obtain ⟨K_,hK_⟩:∃ K_,K_=w8.heap.size:=⟨_,rfl⟩;have hk_b7:b7<K_:=by rw[hK_];exact dw hs 0
 have hk_b4:b4<K_:=by rw[hK_];exact dw hs 1
 have hk_b1:b1<K_:=by rw[hK_];exact dw hs 2
 refine rL ⟨[],some (K_,[])⟩ 0 mixed ?_;have hszK:=hs.g.size;replace hs:=hs.drew;have hKl:=Nat.le_of_eq hK_;refine zO 0 36 [(2,0,2)] (nv a) rfl hKl hs (fun p hp=>by obtain rfl:=List.mem_singleton.1 hp;exact hk_b1) (zO 2 38 [(1,0,2)] (nv b) rfl hKl hs (fun p hp=>by obtain rfl:=List.mem_singleton.1 hp;exact hk_b4) (nu 1 37 (du a oM oM _ _ hs.g) rfl hKl ?_));rintro _ _ _ u12 hKl ⟨bw1,rfl,hlo1,hbc1,hsl1⟩;obtain ⟨_,hs,-,-⟩:=hs.take u12 hlo1 hbc1;replace hs:=hs.to [⟨bw1,22,(wds a).flatMap aj⟩,⟨b7,24,[uV 0,eS]⟩,⟨b4,24,nc b⟩,⟨b1,24,nc a⟩] [];refine nu 3 39 (du b oM oM _ _ hs.g) rfl hKl ?_;rintro _ _ _ u16 hKl ⟨bw2,rfl,hlo2,hbc2,hsl2⟩;obtain ⟨zv,hs,-,-⟩:=hs.take u16 hlo2 hbc2;replace hs:=hs.to [⟨bw2,22,(wds b).flatMap aj⟩,⟨bw1,22,(wds a).flatMap aj⟩,⟨b7,24,[uV 0,eS]⟩,⟨b4,24,nc b⟩,⟨b1,24,nc a⟩] [];refine zV 4 7 (qS (sB bw1) ((wds a).length) ((wds a).length)) (zV 5 8 (qS (sB bw2) ((wds b).length) ((wds b).length)) (tN (cQ (aa hs [.m 40 7,.v 41 (nV ((wds a).length)),.m 42 8,.v 43 (nV ((wds b).length))] ?_))));cases za:(decide ((((wds a).length:Nat):Int)<(((wds b).length:Nat):Int)))
 ·
  have zm:=oF za;refine lB 44 za (ah (cK (aa hs [.v 9 (uV 0)] (af (aa hs [.m 47 7,.v 48 (nV ((wds a).length)),.v 49 (iV 0)] (bn ?_))))));refine bQ _ (CG.loop (fun μ_ Γ w_=>∃ (i:Nat) (l:List Nat) (cy:Nat) (h_:Hp),μ_=(wds a).length-i∧Γ=[(4,pB b7),(7,qS (sB bw1) ((wds a).length) ((wds a).length)),(8,qS (sB bw2) ((wds b).length) ((wds b).length)),(48,nV ((wds a).length)),(49,nV i),(9,mV cy)]∧SS w h w_ h_ [⟨bw2,22,(wds b).flatMap aj⟩,⟨bw1,22,(l).flatMap aj⟩,⟨b7,24,[uV 0,eS]⟩,⟨b4,24,nc b⟩,⟨b1,24,nc a⟩] [] []∧i≤(wds a).length∧l.length=(wds a).length∧Wd l∧cy≤1∧ak 18446744073709551616 l+18446744073709551616^i*cy=a+ak 18446744073709551616 ((wds b:List Nat).take i)) _ ⟨0,wds a,0,zv,rfl,rfl,hs.to _ _,Nat.zero_le _,rfl,Wd.wds _,oM,(by have hx_:ak 18446744073709551616 (wds a)=a:=aI _;rw[hx_];simp[ak])⟩ ?_);rintro _ _ _ ⟨i,l,cy,zw,hm21,rfl,hs,hi,hll,hW,hcy,inv⟩;have hlk:=hW.get i;have hyk:=(Wd.wds b).get i;refine aE ?_;cases zb:(decide ((i:Int)<(((wds a).length:Nat):Int)))
  ·
   have zn:=oF zb;refine lB 50 zb (af (cw (CG.exit ?_)))
   show CG _ _ _ _ _ _ _ _
   refine cQ (aE ?_);have hE:=inv;rw[List.take_of_length_le (show (wds b).length≤i by first|omega|(simp;done)|(simp;omega))] at hE
   rw[show i=l.length by omega] at hE
   have hE_:ak 18446744073709551616 (wds b)=b:=aI _;replace hE:ak 18446744073709551616 l+18446744073709551616^l.length*cy=(a+b):=by rw[hE,hE_];first|done|omega
   refine lL hs [.m 74 9] ?_;cases zc:((cy:Int) != (0:Int))
   ·
    have zo:=az zc;refine lB 75 zc (ah (cK (aE ?_)));obtain ⟨_,hs,sg25,lo26,bc27⟩:=hs.pub 1;replace hs:=(hs.to [⟨bw2,22,(wds b).flatMap aj⟩,⟨b7,24,[uV 0,eS]⟩,⟨b4,24,nc b⟩,⟨b1,24,nc a⟩] []).aS (SlO.of_flat (sz:=1) (f:=aj) (d:=0) (b:=bw1) (o:=0) (l:=l) (fun _=>rfl) sg25);exact lL hs [.m 80 7] (ag 81 hs (bR (sB bw1) ((wds a).length) (l) ((wds a).length) ((a+b)) (by first|rfl|assumption|(simp;done)|(simp;omega)|omega) (hW) (by rw[show cy=0 by omega,Nat.mul_zero,Nat.add_zero] at hE;exact hE) sM sM _ _ hs.g hs.f.1) (fun _ _ hs=>lP 1 0 (nc (a+b)) hs (fun _ hs=>ac hs [(1,0,2)] (nv (a+b)) rfl)))
   have zo:=aY zc;refine lB 75 zc (ao (kQ (lL hs [.m 76 7,.m 77 9] (lR 78 22 1 ([mV cy]) hs (fun zD _ _ hs=>BP 79 1 ((wds a).length) zD l aj 0 cy 8 (uV 0) hs hs.f.1 oM oM (fun zE zG _ _ hs hcc41=>?_))))));replace hs:=hs.to [⟨bw2,22,(wds b).flatMap aj⟩,⟨b7,24,[uV 0,eS]⟩,⟨b4,24,nc b⟩,⟨b1,24,nc a⟩] [];exact lL hs [.m 7 79] (aG (lL hs [.m 80 7] (ag 81 hs (bR zE zG (l++[cy]) ((wds a).length+1) ((a+b)) (by first|rfl|assumption|(simp;done)|(simp;omega)|omega) (Dg.append hW (Dg.one oM)) (by show ak _ (l++[cy])=_;rw[co];show _+_*(cy+_*0)=_;rw[Nat.mul_zero,Nat.add_zero];exact hE) sM sM _ _ hs.g hs.f.1) (fun _ _ hs=>lP 1 0 (nc (a+b)) hs (fun _ hs=>ac hs [(1,0,2)] (nv (a+b)) rfl)))))
  have zn:=oT zb;refine lB 50 zb (af (ce (cK (cQ (kZ (aa hs [.m 51 49,.m 10 51] (aG (lL hs [.v 11 (uV 0)] (af (aa hs [.m 52 10,.m 53 8,.v 54 (nV ((wds b).length))] ?_))))))))));cases zd:(decide ((i:Int)<(((wds b).length:Nat):Int)))
  ·
   have zp:=oF zd;refine lB 55 zd (ah (cK (kQ (lL hs [.m 61 7,.m 62 10,.m 63 7,.m 64 10] (lX 65 (sB bw1) ((wds a).length) ((wds a).length) 1 (i:Nat) i rfl ?_)))));refine lQ 66 1 l aj 1 0 i (mV ((l).getD i 0)) hs oM (lL hs [.m 67 11,.m 68 9] ?_);obtain ⟨s46,zk,he48,hl49,hm50,hr51⟩:=cf ((l).getD i 0) 0 cy wM wM oM;refine lV 69 (.tuple #[mV s46,mV zk]) ?_ (hr:=ck kR (hr51 _));refine lL hs [.m 60 69,.v 70 (mV s46),.v 71 (mV zk)] (lX 72 (sB bw1) ((wds a).length) ((wds a).length) 1 (i:Nat) i rfl ?_);refine lW 1 l aj 1 i s46 hs oM (fun _ hs=>?_);have zA:((l).set i s46).length=(wds a).length:=by rw[List.length_set];exact hll
   replace hs:=hs.to [⟨bw2,22,(wds b).flatMap aj⟩,⟨bw1,22,((l).set i s46).flatMap aj⟩,⟨b7,24,[uV 0,eS]⟩,⟨b4,24,nc b⟩,⟨b1,24,nc a⟩] [];refine lL hs [.m 9 71] (lN (kQ (bH 73 ((i:Nat)+1) (i+1) ?_)));refine lL hs [.m 49 73] (lD ?_);intro a_ ka;refine ⟨_,_,?_,⟨i+1,(l).set i s46,zk,zw,rfl,rfl,hs.to _ _,oM,zA,(hW.set _ oM),oM,(cO oM inv (by first|omega|(have hy0:=bC (l:=(wds b:List Nat)) (k:=i) (by first|omega|(simp;done));omega)))⟩,ka.to _ kR⟩
   omega
  have zp:=oT zd;refine lB 55 zd (ao (kQ (lL hs [.m 56 8,.m 57 10] (lX 58 (sB bw2) ((wds b).length) ((wds b).length) 1 (i:Nat) i rfl ?_))));refine lQ 59 0 (wds b) aj 1 0 i (mV ((wds b).getD i 0)) hs oM (lL hs [.m 11 59] (lN (kQ (lL hs [.m 61 7,.m 62 10,.m 63 7,.m 64 10] (lX 65 (sB bw1) ((wds a).length) ((wds a).length) 1 (i:Nat) i rfl ?_)))));refine lQ 66 1 l aj 1 0 i (mV ((l).getD i 0)) hs oM (lL hs [.m 67 11,.m 68 9] ?_);obtain ⟨s59,zl,he61,hl62,hm63,hr64⟩:=cf ((l).getD i 0) ((wds b).getD i 0) cy wM wM oM;refine lV 69 (.tuple #[mV s59,mV zl]) ?_ (hr:=ck kR (hr64 _));refine lL hs [.m 60 69,.v 70 (mV s59),.v 71 (mV zl)] (lX 72 (sB bw1) ((wds a).length) ((wds a).length) 1 (i:Nat) i rfl ?_);refine lW 1 l aj 1 i s59 hs oM (fun _ hs=>?_);have zB:((l).set i s59).length=(wds a).length:=by rw[List.length_set];exact hll
  replace hs:=hs.to [⟨bw2,22,(wds b).flatMap aj⟩,⟨bw1,22,((l).set i s59).flatMap aj⟩,⟨b7,24,[uV 0,eS]⟩,⟨b4,24,nc b⟩,⟨b1,24,nc a⟩] [];refine lL hs [.m 9 71] (lN (kQ (bH 73 ((i:Nat)+1) (i+1) ?_)));refine lL hs [.m 49 73] (lD ?_);intro a_ ka;refine ⟨_,_,?_,⟨i+1,(l).set i s59,zl,zw,rfl,rfl,hs.to _ _,oM,zB,(hW.set _ oM),oM,(cO oM inv (by first|omega|(have hy0:=bC (l:=(wds b:List Nat)) (k:=i) (by first|omega|(simp;done));omega)))⟩,ka.to _ kR⟩
  omega
 have zm:=oT za;refine lB 44 za (ao (kQ (lL hs [.m 45 8,.m 46 7,.m 7 45,.m 8 46] (aG (lL hs [.v 9 (uV 0)] (af (aa hs [.m 47 7,.v 48 (nV ((wds b).length)),.v 49 (iV 0)] (bn ?_))))))));refine bQ _ (CG.loop (fun μ_ Γ w_=>∃ (i:Nat) (l:List Nat) (cy:Nat) (h_:Hp),μ_=(wds b).length-i∧Γ=[(4,pB b7),(7,qS (sB bw2) ((wds b).length) ((wds b).length)),(8,qS (sB bw1) ((wds a).length) ((wds a).length)),(48,nV ((wds b).length)),(49,nV i),(9,mV cy)]∧SS w h w_ h_ [⟨bw2,22,(l).flatMap aj⟩,⟨bw1,22,(wds a).flatMap aj⟩,⟨b7,24,[uV 0,eS]⟩,⟨b4,24,nc b⟩,⟨b1,24,nc a⟩] [] []∧i≤(wds b).length∧l.length=(wds b).length∧Wd l∧cy≤1∧ak 18446744073709551616 l+18446744073709551616^i*cy=b+ak 18446744073709551616 ((wds a:List Nat).take i)) _ ⟨0,wds b,0,zv,rfl,rfl,hs.to _ _,Nat.zero_le _,rfl,Wd.wds _,oM,(by have hx_:ak 18446744073709551616 (wds b)=b:=aI _;rw[hx_];simp[ak])⟩ ?_);rintro _ _ _ ⟨i,l,cy,zx,hm74,rfl,hs,hi,hll,hW,hcy,inv⟩;have hlk:=hW.get i;have hyk:=(Wd.wds a).get i;refine aE ?_;cases ze:(decide ((i:Int)<(((wds b).length:Nat):Int)))
 ·
  have zq:=oF ze;refine lB 50 ze (af (cw (CG.exit ?_)))
  show CG _ _ _ _ _ _ _ _
  refine cQ (aE ?_);have hE:=inv;rw[List.take_of_length_le (show (wds a).length≤i by first|omega|(simp;done)|(simp;omega))] at hE
  rw[show i=l.length by omega] at hE
  have hE_:ak 18446744073709551616 (wds a)=a:=aI _;replace hE:ak 18446744073709551616 l+18446744073709551616^l.length*cy=(a+b):=by rw[hE,hE_];first|done|omega
  refine lL hs [.m 74 9] ?_;cases zf:((cy:Int) != (0:Int))
  ·
   have zr:=az zf;refine lB 75 zf (ah (cK (aE ?_)));obtain ⟨_,hs,sg78,lo79,bc80⟩:=hs.pub 0;replace hs:=(hs.to [⟨bw1,22,(wds a).flatMap aj⟩,⟨b7,24,[uV 0,eS]⟩,⟨b4,24,nc b⟩,⟨b1,24,nc a⟩] []).aS (SlO.of_flat (sz:=1) (f:=aj) (d:=0) (b:=bw2) (o:=0) (l:=l) (fun _=>rfl) sg78);exact lL hs [.m 80 7] (ag 81 hs (bR (sB bw2) ((wds b).length) (l) ((wds b).length) ((a+b)) (by first|rfl|assumption|(simp;done)|(simp;omega)|omega) (hW) (by rw[show cy=0 by omega,Nat.mul_zero,Nat.add_zero] at hE;exact hE) sM sM _ _ hs.g hs.f.1) (fun _ _ hs=>lP 1 0 (nc (a+b)) hs (fun _ hs=>ac hs [(1,0,2)] (nv (a+b)) rfl)))
  have zr:=aY zf;refine lB 75 zf (ao (kQ (lL hs [.m 76 7,.m 77 9] (lR 78 22 1 ([mV cy]) hs (fun zH _ _ hs=>BP 79 0 ((wds b).length) zH l aj 0 cy 8 (uV 0) hs hs.f.1 oM oM (fun zI zJ _ _ hs hcc94=>?_))))));replace hs:=hs.to [⟨bw1,22,(wds a).flatMap aj⟩,⟨b7,24,[uV 0,eS]⟩,⟨b4,24,nc b⟩,⟨b1,24,nc a⟩] [];exact lL hs [.m 7 79] (aG (lL hs [.m 80 7] (ag 81 hs (bR zI zJ (l++[cy]) ((wds b).length+1) ((a+b)) (by first|rfl|assumption|(simp;done)|(simp;omega)|omega) (Dg.append hW (Dg.one oM)) (by show ak _ (l++[cy])=_;rw[co];show _+_*(cy+_*0)=_;rw[Nat.mul_zero,Nat.add_zero];exact hE) sM sM _ _ hs.g hs.f.1) (fun _ _ hs=>lP 1 0 (nc (a+b)) hs (fun _ hs=>ac hs [(1,0,2)] (nv (a+b)) rfl)))))
 have zq:=oT ze;refine lB 50 ze (af (ce (cK (cQ (kZ (aa hs [.m 51 49,.m 10 51] (aG (lL hs [.v 11 (uV 0)] (af (aa hs [.m 52 10,.m 53 8,.v 54 (nV ((wds a).length))] ?_))))))))));cases zg:(decide ((i:Int)<(((wds a).length:Nat):Int)))
 ·
  have zs:=oF zg;refine lB 55 zg (ah (cK (kQ (lL hs [.m 61 7,.m 62 10,.m 63 7,.m 64 10] (lX 65 (sB bw2) ((wds b).length) ((wds b).length) 1 (i:Nat) i rfl ?_)))));refine lQ 66 0 l aj 1 0 i (mV ((l).getD i 0)) hs oM (lL hs [.m 67 11,.m 68 9] ?_);obtain ⟨s99,zi,he101,hl102,hm103,hr104⟩:=cf ((l).getD i 0) 0 cy wM wM oM;refine lV 69 (.tuple #[mV s99,mV zi]) ?_ (hr:=ck kR (hr104 _));refine lL hs [.m 60 69,.v 70 (mV s99),.v 71 (mV zi)] (lX 72 (sB bw2) ((wds b).length) ((wds b).length) 1 (i:Nat) i rfl ?_);refine lW 0 l aj 1 i s99 hs oM (fun _ hs=>?_);have zt:((l).set i s99).length=(wds b).length:=by rw[List.length_set];exact hll
  replace hs:=hs.to [⟨bw2,22,((l).set i s99).flatMap aj⟩,⟨bw1,22,(wds a).flatMap aj⟩,⟨b7,24,[uV 0,eS]⟩,⟨b4,24,nc b⟩,⟨b1,24,nc a⟩] [];refine lL hs [.m 9 71] (lN (kQ (bH 73 ((i:Nat)+1) (i+1) ?_)));refine lL hs [.m 49 73] (lD ?_);intro a_ ka;refine ⟨_,_,?_,⟨i+1,(l).set i s99,zi,zx,rfl,rfl,hs.to _ _,oM,zt,(hW.set _ oM),oM,(cO oM inv (by first|omega|(have hy0:=bC (l:=(wds a:List Nat)) (k:=i) (by first|omega|(simp;done));omega)))⟩,ka.to _ kR⟩
  omega
 have zs:=oT zg;refine lB 55 zg (ao (kQ (lL hs [.m 56 8,.m 57 10] (lX 58 (sB bw1) ((wds a).length) ((wds a).length) 1 (i:Nat) i rfl ?_))));refine lQ 59 1 (wds a) aj 1 0 i (mV ((wds a).getD i 0)) hs oM (lL hs [.m 11 59] (lN (kQ (lL hs [.m 61 7,.m 62 10,.m 63 7,.m 64 10] (lX 65 (sB bw2) ((wds b).length) ((wds b).length) 1 (i:Nat) i rfl ?_)))));refine lQ 66 0 l aj 1 0 i (mV ((l).getD i 0)) hs oM (lL hs [.m 67 11,.m 68 9] ?_);obtain ⟨s112,zj,he114,hl115,hm116,hr117⟩:=cf ((l).getD i 0) ((wds a).getD i 0) cy wM wM oM;refine lV 69 (.tuple #[mV s112,mV zj]) ?_ (hr:=ck kR (hr117 _));refine lL hs [.m 60 69,.v 70 (mV s112),.v 71 (mV zj)] (lX 72 (sB bw2) ((wds b).length) ((wds b).length) 1 (i:Nat) i rfl ?_);refine lW 0 l aj 1 i s112 hs oM (fun _ hs=>?_);have zu:((l).set i s112).length=(wds b).length:=by rw[List.length_set];exact hll
 replace hs:=hs.to [⟨bw2,22,((l).set i s112).flatMap aj⟩,⟨bw1,22,(wds a).flatMap aj⟩,⟨b7,24,[uV 0,eS]⟩,⟨b4,24,nc b⟩,⟨b1,24,nc a⟩] [];refine lL hs [.m 9 71] (lN (kQ (bH 73 ((i:Nat)+1) (i+1) ?_)));refine lL hs [.m 49 73] (lD ?_);intro a_ ka;refine ⟨_,_,?_,⟨i+1,(l).set i s112,zj,zx,rfl,rfl,hs.to _ _,oM,zu,(hW.set _ oM),oM,(cO oM inv (by first|omega|(have hy0:=bC (l:=(wds a:List Nat)) (k:=i) (by first|omega|(simp;done));omega)))⟩,ka.to _ kR⟩
 omega
end Go.Proofs.YtebkpkbmegcjeaaGreatDoor
